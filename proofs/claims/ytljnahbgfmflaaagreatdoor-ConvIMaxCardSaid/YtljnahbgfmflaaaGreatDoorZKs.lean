/-
  Texts in a row. No statement of the seat.
-/
import Derived.Test.YtljnahbgfmflaaaGreatDoorZSh
import Derived.Test.YtljnahbgfmflaaaGreatDoorZTf
import Derived.Test.YtljnahbgfmflaaaGreatDoorZLj
set_option linter.unusedVariables false
set_option maxHeartbeats 2000000
set_option maxRecDepth 100000
set_option linter.unusedSimpArgs false
set_option linter.unnecessarySimpa false
namespace Go.Proofs.YtljnahbgfmflaaaGreatDoor
open Go Go.Am Go.Gw
theorem jnR {ns:List (List UInt8)} {i:Nat} {c:List UInt8} (h:ns[i]? = some c):(svs ns)[i]? = some (sv c):=by simp [svs,h]
theorem jkU {ns:List (List UInt8)} {z:Nat} (h:z=1∨ns=[]):z=1∨svs ns=[]:=by
 rcases h with rfl|rfl
 ·exact .inl rfl
 ·exact .inr rfl
def jcS (s:List UInt8):List (List UInt8)→Nat→Int
 |[],_=>-1
 |c :: r,i=>if s=c then i else jcS s r (i + 1)
theorem jeJ (s:List UInt8):∀ (ns:List (List UInt8)) (i:Nat),decide (0 ≤ jcS s ns i)=decide (s ∈ ns)
 |[],i=>by simp [jcS]
 |c :: r,i=>by
  rw [jcS]
  by_cases h:s=c
  ·rw [if_pos h]
   simp [h]
  ·rw [if_neg h,jeJ s r (i + 1)]
   simp [h]
theorem jnk (s:List UInt8) (ns:List (List UInt8)) (b:Bool) (z:Nat) (hz:z=1∨ns=[]) (hbd:ns.length ≤ 8796093022208):Pf C1 316 [.sl b z (svs ns),sv s] [iv (jcS s ns 0)]:=by
 have hln:(svs ns).length=ns.length:=by simp
 refine j00 Tryz.func316 rfl rfl rfl ?_
 skip
 all_goals (try (conv=>whnf))
 refine j08 (G:=Nat) (fun i=>[(8,iv i)]) (fun _=>_) (fun i=>i ≤ ns.length∧jcS s (ns.drop i) i=jcS s ns 0) (fun i=>ns.length - i) 0 ⟨by omega,rfl⟩ rfl rfl ?_
 rintro i ⟨hi,hall⟩
 dsimp only at hi hall ⊢
 repeat' ((conv=>whnf);first|apply gE<;>intro h|apply gQ|refine j03 rfl ?_)
 all_goals (try (conv=>whnf))
 ·have hi':i < ns.length:=by omega
  obtain ⟨c,hc⟩:∃ c,ns[i]? = some c:=⟨_,List.getElem?_eq_getElem hi'⟩
  rw [drop_at hc,jcS] at hall
  repeat' ((conv=>whnf);first|apply gM<;>intro h|refine gV ?_|refine j03 rfl ?_|refine VIdx.mk _ (jnR hc) ?_|refine VOk.mk (j07 rfl (jkU hz)) ?_|refine j3C ?_)
  all_goals (try (conv=>whnf))
  ·rw [if_pos (by simpa using h)] at hall
   rw [← hall]
  ·rw [if_neg (by simpa using h)] at hall
   exact VAgain.mk _ rfl _ (j0h rfl rfl rfl) ⟨i + 1,⟨hi',hall⟩,by omega,rfl⟩
 ·rw [List.drop_of_length_le (by omega),jcS] at hall
  rw [← hall]
theorem jcP (s:List UInt8) (ns:List (List UInt8)) (b:Bool) (z:Nat) (hz:z=1∨ns=[]) (hbd:ns.length ≤ 8796093022208):Pf C1 314 [.sl b z (svs ns),sv s] [bv (decide (s ∈ ns))]:=by
 have hi:=jnk s ns b z hz hbd
 have e:=jeJ s ns 0
 refine j00 Tryz.func314 rfl rfl rfl ?_
 repeat' ((conv=>whnf);first|refine j03 rfl ?_|refine j01 hi rfl rfl ?_)
 all_goals (try (conv=>whnf))
 rw [← e]
open Go Go.Am Go.Gw
def spF:Tm→Tm × List Tm
 | .mk k n s ls ts=>match ts with
  |[f,a]=>if k=4 then ((spF f).1,a :: (spF f).2) else (.mk k n s ls [f,a],[])
  |ts=>(.mk k n s ls ts,[])
def Turned (ts us:List Tm) (i:Nat):Prop:=us.length=ts.length∧∀ j,j < ts.length→us[j]? = if j < i∨ts.length ≤ j + i then ts[ts.length - 1 - j]? else ts[j]?
theorem jnu (ts:List Tm):Turned ts ts 0:=⟨rfl,fun j hj=>by rw [if_neg (by omega)]⟩
theorem jij {ts us:List Tm} {i:Nat} (h:Turned ts us i) (hi:ts.length ≤ 2 * i + 1):us=ts.reverse:=by
 apply List.ext_getElem?
 intro j
 rcases Nat.lt_or_ge j ts.length with hj|hj
 ·rw [h.2 j hj,List.getElem?_reverse hj]
  split
  ·rfl
  ·rw [show ts.length - 1 - j=j by omega]
 ·rw [List.getElem?_eq_none (by rw [h.1]; exact hj),List.getElem?_eq_none (by simpa using hj)]
theorem jfJ {ts us:List Tm} {i:Nat} {a b:Tm} (h:Turned ts us i) (hi:2 * i + 1 < ts.length) (ha:us[i]? = some a) (hb:us[ts.length - 1 - i]? = some b):Turned ts ((us.set i b).set (ts.length - 1 - i) a) (i + 1):=by
 obtain ⟨hl,h⟩:=h
 refine ⟨by simp [hl],fun j hj=>?_⟩
 rw [h i (by omega),if_neg (by omega)] at ha
 rw [h _ (by omega),if_neg (by omega)] at hb
 rw [List.getElem?_set,List.getElem?_set]
 by_cases h1:ts.length - 1 - i=j
 ·rw [if_pos h1,if_pos (by simp [hl]; omega),if_pos (by omega),← ha]
  congr 1
  omega
 ·rw [if_neg h1]
  by_cases h2:i=j
  ·subst h2
   rw [if_pos rfl,if_pos (by simp [hl]; omega),if_pos (by omega),← hb]
  ·rw [if_neg h2,h j hj]
   by_cases h3:j < i∨ts.length ≤ j + i
   ·rw [if_pos h3,if_pos (by omega)]
   ·rw [if_neg h3,if_neg (by omega)]
theorem jfn (ts:List Tm) (hl:ts.length ≤ 1000000):Finds C1 173 [.ms 0 ts.length] [.row false 25 5 (ts.map encT)] fun r st=>r = .ret []∧st=[.row false 25 5 (ts.reverse.map encT)]:=by
 have hbl:Nat.beq ts.length (ts.map encT).length=true:=by simp
 refine j00 Tryz.func173 rfl rfl rfl ?_
 repeat' ((conv=>whnf);first|refine gV ?_|refine VOk.mk hbl ?_)
 all_goals (try (conv=>whnf))
 refine j08 (G:=Nat × List Tm) (fun g=>[(2,iv g.1),(3,iv ((ts.length:Int) - 1 - g.1))]) (fun g=>[.row false 25 5 (g.2.map encT)]) (fun g=>2 * g.1 ≤ ts.length∧Turned ts g.2 g.1) (fun g=>ts.length - g.1) (0,ts) ⟨by omega,jnu ts⟩ (by rw [show ((ts.length:Int) - 1 - ((0:Nat):Int))=ts.length - 1 by omega]; rfl) rfl ?_
 rintro ⟨i,us⟩ ⟨hi,ht⟩
 dsimp only at hi ht ⊢
 have hul:us.length=ts.length:=ht.1
 repeat' ((conv=>whnf);first|apply gE<;>intro h)
 all_goals (try (conv=>whnf))
 ·have hlt:2 * i + 1 < ts.length:=by omega
  obtain ⟨a,ha⟩:∃ a,us[i]? = some a:=⟨_,List.getElem?_eq_getElem (by omega)⟩
  obtain ⟨c,hc⟩:∃ c,us[ts.length - 1 - i]? = some c:=⟨_,List.getElem?_eq_getElem (by omega)⟩
  have hae:(us.map encT)[i]? = some (encT a):=by rw [List.getElem?_map,ha]; rfl
  have hce:(us.map encT)[ts.length - 1 - i]? = some (encT c):=by rw [List.getElem?_map,hc]; rfl
  have hn:=jfJ ht hlt ha hc
  obtain ⟨k1,n1,s1,b1,z1,x1,c1,y1,ys1,he1⟩:=j0a a
  obtain ⟨k2,n2,s2,b2,z2,x2,c2,y2,ys2,he2⟩:=j0a c
  rw [he1] at hae
  rw [he2] at hce
  have o1:(Nat.beq ts.length (us.map encT).length && Nat.blt (ts.length - 1 - i) ts.length && Nat.beq 5 5)=true:=by simp [hul,Nat.blt_eq]; omega
  have o2:(Nat.beq ts.length (us.map encT).length && Nat.blt i ts.length && Nat.beq 5 5)=true:=by simp [hul,Nat.blt_eq]; omega
  have hub:Nat.beq ts.length (us.map encT).length=true:=by simp [hul]
  have o3:∀ e:PV,(Nat.beq ts.length ((us.map encT).set i e).length && Nat.blt (ts.length - 1 - i) ts.length && Nat.beq 5 5)=true:=fun e=>by simp [hul,Nat.blt_eq]; omega
  have o4:∀ e:PV,Nat.beq ts.length ((us.map encT).set i e).length=true:=fun e=>by simp [hul]
  have hce2:∀ e:PV,((us.map encT).set i e)[ts.length - 1 - i]? = some (.ag [iv k2,iv n2,sv s2,.sl b2 z2 x2,.sl c2 y2 ys2]):=fun e=>by rw [List.getElem?_set_ne (by omega)]; exact hce
  repeat' ((conv=>whnf);first|apply gO|apply gQ|refine gV ?_|refine VOk.mk hub ?_|refine VOk.mk (o3 _) ?_|refine VOk.mk (o4 _) ?_|refine VIdx.mk _ (hce2 _) ?_|refine VNat.mk (ts.length - 1 - i) (show ((ts.length:Int) - 1 - i)=((ts.length - 1 - i:Nat):Int) by omega) ?_|refine VOk.mk o1 ?_|refine VOk.mk o2 ?_|refine VIdx.mk _ hae ?_|refine VIdx.mk _ hce ?_)
  all_goals (try (conv=>whnf))
  refine VAgain.mk _ rfl _ (j0N rfl) ⟨(i + 1,(us.set i c).set (ts.length - 1 - i) a),⟨by dsimp only; omega,hn⟩,by dsimp only; omega,?_⟩
  dsimp only
  rw [List.map_set,List.map_set,he1,he2,show ((ts.length:Int) - 1 - ((i + 1:Nat):Int))=ts.length - 1 - i - 1 by omega]
  rfl
 ·obtain rfl:=jij ht (by omega)
  exact jca rfl rfl (.cons (j2k (j0J _ 6)) .nil) rfl ⟨rfl,rfl⟩
theorem jaD:Pf C1 173 [.sl true 0 []] []:=jdK (st':=[]) 20 (by kernel_rfl)
theorem jci {n:Int} {s:List UInt8} {ls:List Lv} {f a:Tm}:spF (.mk 4 n s ls [f,a])=((spF f).1,a :: (spF f).2):=by
 rw [spF,if_pos rfl]
theorem jbQ {k n:Int} {s:List UInt8} {ls:List Lv} {ts:List Tm} (h:¬ (k=4∧ts.length=2)):spF (.mk k n s ls ts)=(.mk k n s ls ts,[]):=by
 unfold spF
 split
 ·rw [if_neg (fun e=>h ⟨e,rfl⟩)]
 ·rfl
def j1c (t:Tm):List Tm:=(spF t).2.reverse
def spS (z:List PV) (g:List Tm × Tm × PV):Sto:=match g.1 with
 |[]=>[.box 25 g.2.2.cells,.box 25 z]
 |a :: r=>[.box 25 g.2.2.cells,.box 25 z,.row false 25 5 ((a :: r).map encT)]
theorem j9O (t:Tm) (v:PV) (hT:TmP t v) (hbd:(spF t).2.length ≤ 2000):Pf C1 122 [v] [encT (spF t).1,j7o (j1c t)]:=by
 obtain ⟨k0,nn0,s0,ls0,ts0,b0,z0,xs0,c0,y0,ys0,rfl,rfl,-⟩:=hT.open
 refine j00 Tryz.func122 rfl rfl rfl ?_
 skip
 all_goals (try (conv=>whnf))
 refine j08 (G:=List Tm × Tm × PV) (fun g=>[(4,match g.1 with
    |[]=>.sl true 0 []
    |a :: r=>.ms 2 (r.length + 1))]) (spS zTm) (fun g=>TmP g.2.1 g.2.2∧(spF g.2.1).1=(spF (.mk k0 nn0 s0 ls0 ts0)).1∧g.1 ++ (spF g.2.1).2=(spF (.mk k0 nn0 s0 ls0 ts0)).2) (fun g=>sizT g.2.1) ([],.mk k0 nn0 s0 ls0 ts0,.ag [iv k0,iv nn0,sv s0,.sl b0 z0 xs0,.sl c0 y0 ys0]) ⟨hT,rfl,rfl⟩ rfl rfl ?_
 rintro ⟨don,u,w⟩ ⟨hu,hh,ha⟩
 dsimp only at hu hh ha
 have hfr:=j2F u w hu
 obtain ⟨k9,n9,s9,b9,z9,x9,c9,y9,ys9,he9⟩:=j0a u
 have hlen:don.length + (spF u).2.length ≤ 2000:=by rw [← List.length_append,ha]; exact hbd
 rw [he9] at hfr
 obtain ⟨k,nn,s,ls,ts,b,z,xs,c,y,ys,rfl,rfl,hz,hxs,hlen1,hbd1,hy,hys,hlen2,hbd2,hsl⟩:=hu.open
 have hround:k=4→ts.length=2→∃ f a,ts=[f,a]∧(spF f).1=(spF (.mk k0 nn0 s0 ls0 ts0)).1∧(don ++ [a]) ++ (spF f).2=(spF (.mk k0 nn0 s0 ls0 ts0)).2∧don.length + 1 ≤ 2000:=by
  rintro rfl h2
  match ts,h2 with
  |[f,a],_ =>
   rw [jci] at hh ha hlen
   refine ⟨f,a,rfl,hh,?_,?_⟩
   ·rw [List.append_assoc]
    exact ha
   ·simp only [List.length_cons] at hlen
    omega
 have hend:¬ (k=4∧ts.length=2)→(spF (.mk k0 nn0 s0 ls0 ts0)).1 = .mk k nn s ls ts∧(spF (.mk k0 nn0 s0 ls0 ts0)).2=don:=fun h=>by
  rw [jbQ h] at hh ha
  exact ⟨hh.symm,by simpa using ha.symm⟩
 cases don with
 |nil =>
  simp only [PV.cells,spS]
  repeat' ((conv=>whnf);first|apply gF|refine gA ?_|refine gB ?_|apply gE<;>intro h|apply gO|apply gQ|refine j03 rfl ?_|refine j01 hfr rfl rfl ?_|refine j01 jaD rfl rfl ?_)
  all_goals (try (conv=>whnf))
  ·obtain ⟨f1,a1,rfl,hh1,ha1,hl1⟩:=hround (by assumption) (by omega)
   obtain ⟨va,hva,hla⟩:=hys.at (by rfl:[f1,a1][1]? = some a1)
   obtain ⟨vb,hvb,hlb⟩:=hys.at (by rfl:[f1,a1][0]? = some f1)
   have hAa:=j2F a1 va hla
   obtain ⟨k3,n3,s3,b3,z3,x3,c3,y3,ys3,he3⟩:=j0a a1
   rw [he3] at hAa
   obtain ⟨k1,n1,s1,l1,t1,b4,z1,x1,c1,y1,ys1,rfl,rfl,-⟩:=hla.open
   obtain ⟨k2,n2,s2,l2,t2,b5,z2,x2,c2,y2,ys2,rfl,rfl,-⟩:=hlb.open
   repeat' ((conv=>whnf);first|apply gO|apply gQ|refine VIdx.mk _ hva ?_|refine VIdx.mk _ hvb ?_|refine VOk.mk (j07 rfl hy) ?_|refine j01 hAa rfl rfl ?_)
   all_goals (try (conv=>whnf))
   have e:[Tm.mk k1 n1 s1 l1 t1].map encT=[.ag [iv k3,iv n3,sv s3,.sl b3 z3 x3,.sl c3 y3 ys3]]:=by rw [List.map_cons,he3]; rfl
   exact VAgain.mk _ rfl _ (j1a (.cons (j06 rfl rfl) (.cons (j06 rfl rfl) (.cons (j0d rfl) .nil))) (.cons (j06 rfl rfl) (.cons (j06 rfl rfl) (.cons (j0d rfl) .nil))) rfl rfl rfl rfl rfl) ⟨([Tm.mk k1 n1 s1 l1 t1],Tm.mk k2 n2 s2 l2 t2,.ag [iv k2,iv n2,sv s2,.sl b5 z2 x2,.sl c2 y2 ys2]),⟨hlb,hh1,ha1⟩,by simp only [sizT,j0E]; omega,by dsimp only [spS]; rw [e]; rfl⟩
  all_goals
   obtain ⟨e1,e2⟩:=hend (by omega)
   have e3:j1c (.mk k0 nn0 s0 ls0 ts0)=[]:=by rw [j1c,e2]; rfl
   rw [e1,e3,he9]
   rfl
 |cons d dr =>
  simp only [PV.cells,spS]
  have hbl:Nat.beq (dr.length + 1) ((d :: dr).map encT).length=true:=by simp
  have hrv:=jfn (d :: dr) (by simp only [List.length_cons] at hlen ⊢; omega)
  repeat' ((conv=>whnf);first|apply gF|refine gA ?_|refine gB ?_|apply gE<;>intro h|apply gQ)
  all_goals (try (conv=>whnf))
  ·obtain ⟨f1,a1,rfl,hh1,ha1,hl1⟩:=hround (by assumption) (by omega)
   obtain ⟨va,hva,hla⟩:=hys.at (by rfl:[f1,a1][1]? = some a1)
   obtain ⟨vb,hvb,hlb⟩:=hys.at (by rfl:[f1,a1][0]? = some f1)
   have hAa:=j2F a1 va hla
   obtain ⟨k3,n3,s3,b3,z3,x3,c3,y3,ys3,he3⟩:=j0a a1
   rw [he3] at hAa
   obtain ⟨k1,n1,s1,l1,t1,b4,z1,x1,c1,y1,ys1,rfl,rfl,-⟩:=hla.open
   obtain ⟨k2,n2,s2,l2,t2,b5,z2,x2,c2,y2,ys2,rfl,rfl,-⟩:=hlb.open
   have hp8:((d :: dr).map encT ++ [PV.ag [iv k3,iv n3,sv s3,.sl b3 z3 x3,.sl c3 y3 ys3]]).all (pur 8)=true:=by
    rw [← he3,show (d :: dr).map encT ++ [encT (Tm.mk k1 n1 s1 l1 t1)]=(d :: dr ++ [Tm.mk k1 n1 s1 l1 t1]).map encT by simp]
    exact j0J _ 6
   repeat' ((conv=>whnf);first|apply gO|apply gQ|refine VIdx.mk _ hva ?_|refine VIdx.mk _ hvb ?_|refine VOk.mk (j07 rfl hy) ?_|refine j01 hAa rfl rfl ?_|refine VOk.mk (j1j (w:=80) (r:=140737488355328) (by simp:((d :: dr).map encT).length=dr.length + 1) rfl rfl rfl rfl (by simp only [List.length_cons,List.length_nil] at hl1 ⊢; omega) (by simp only [List.length_cons,List.length_nil] at hl1 ⊢; omega)) ?_)
   all_goals (try (conv=>whnf))
   have e:(d :: (dr ++ [Tm.mk k1 n1 s1 l1 t1])).map encT=(d :: dr).map encT ++ [.ag [iv k3,iv n3,sv s3,.sl b3 z3 x3,.sl c3 y3 ys3]]:=by rw [← he3]; simp
   have el:(dr ++ [Tm.mk k1 n1 s1 l1 t1]).length + 1=dr.length + 1 + 1:=by simp
   refine VAgain.mk _ rfl _ (j1a (.cons (j06 rfl rfl) (.cons (j06 rfl rfl) (.cons (j0d hp8) .nil))) (.cons (j06 rfl rfl) (.cons (j06 rfl rfl) (.cons (j0d hp8) .nil))) rfl rfl rfl rfl rfl) ⟨(d :: (dr ++ [Tm.mk k1 n1 s1 l1 t1]),Tm.mk k2 n2 s2 l2 t2,.ag [iv k2,iv n2,sv s2,.sl b5 z2 x2,.sl c2 y2 ys2]),⟨hlb,hh1,?_⟩,by simp only [sizT,j0E]; omega,?_⟩
   ·exact ha1
   ·dsimp only [spS]
    rw [e,el]
    rfl
  all_goals
   obtain ⟨e1,e2⟩:=hend (by omega)
   have e3:j1c (.mk k0 nn0 s0 ls0 ts0)=(d :: dr).reverse:=by rw [j1c,e2]
   refine jdQ rfl rfl (.cons (j1p rfl rfl) (.cons (j1p rfl rfl) (.cons (j2k (j0J _ 6)) .nil))) rfl rfl rfl rfl (Finds.mono hrv ?_)
   rintro _ _ ⟨rfl,rfl⟩
   refine j5d (.cons (j2k (j0J _ 6)) .nil) rfl ?_
   repeat' ((conv=>whnf);first|apply gO|refine j01 hfr rfl rfl ?_)
   all_goals (try (conv=>whnf))
   refine j0x rfl (j09 rfl (j09 (j0P rfl (by simp) (j0J _ 4)) j0s)) rfl ?_
   rw [e1,e3,he9,j2e (by simp)]
   try rfl
open Go Go.Am Go.Gw
def jqj:PV:=.fn 152 [] []
def jqL:PV:=.fn 100 [] []
theorem jah (ls ls':List Lv) (hrec:∀ l ∈ ls,∀ v,LvP l v→∀ m w,LvP m w→Pf C1 152 [v,w] [bv (eqLv l m)]) (b b':Bool) (z z':Nat) (xs xs':List PV) (hz:z=3∨xs=[]) (hz':z'=3∨xs'=[]) (hxs:LvsP ls xs) (hxs':LvsP ls' xs') (hbd:ls.length ≤ 3518437208780) (hbd':ls'.length ≤ 3518437208780) :
  Pf C1 151 [.sl b z xs,.sl b' z' xs',jqj] [bv (decide (ls.length=ls'.length) && jap ls ls')]:=by
 have hlen:=hxs.len
 have hlen':=hxs'.len
 refine j00 Tryz.func151 rfl rfl rfl ?_
 repeat' ((conv=>whnf);first|apply gN|apply gE<;>intro h|refine j03 rfl ?_)
 all_goals (try (conv=>whnf))
 ·have hl2:ls.length=ls'.length:=by omega
  refine j08 (G:=Nat) (fun i=>[(17,iv i)]) (fun _=>_) (fun i=>i ≤ ls.length∧jap (ls.drop i) (ls'.drop i)=jap ls ls') (fun i=>ls.length - i) 0 ⟨by omega,rfl⟩ rfl rfl ?_
  rintro i ⟨hi,hall⟩
  repeat' ((conv=>whnf);first|apply gE<;>intro h|apply gQ|refine j03 rfl ?_)
  all_goals (try (conv=>whnf))
  ·have hi':i < ls.length:=by omega
   obtain ⟨lc,hlc⟩:∃ lc,ls[i]? = some lc:=⟨_,List.getElem?_eq_getElem hi'⟩
   obtain ⟨mc,hmc⟩:∃ mc,ls'[i]? = some mc:=⟨_,List.getElem?_eq_getElem (by omega)⟩
   obtain ⟨v,hv,hl⟩:=hxs.at hlc
   obtain ⟨w,hw,hl'⟩:=hxs'.at hmc
   have hr:=hrec _ (List.mem_of_getElem? hlc) _ hl _ _ hl'
   obtain ⟨k1,n1,l1,b1,z1,x1,rfl,rfl,hz1,hxs1,hlen1,hbd1⟩:=hl.open
   obtain ⟨k2,n2,l2,b2,z2,x2,rfl,rfl,hz2,hxs2,hlen2,hbd2⟩:=hl'.open
   rw [drop_at hlc,drop_at hmc] at hall
   simp only [jap] at hall
   repeat' ((conv=>whnf);first|apply gN|apply gM<;>intro h|apply gO|apply gQ|refine gV ?_|refine j03 rfl ?_|refine VIdx.mk _ hv ?_|refine VOk.mk (j07 rfl hz) ?_|refine VIdx.mk _ hw ?_|refine VOk.mk (j07 rfl hz') ?_|refine j01 hr rfl rfl ?_)
   all_goals (try (conv=>whnf))
   ·refine VAgain.mk _ rfl _ (j0h rfl rfl rfl) ⟨i + 1,⟨hi',?_⟩,by omega,rfl⟩
    rw [← hall]
    simp_all
   ·rw [← hall]
    simp_all
  ·have:i=ls.length:=by omega
   subst this
   rw [List.drop_length] at hall
   rw [← hall,decide_eq_true hl2]
   rfl
 ·rw [decide_eq_false (by omega)]
  rfl
theorem jlg (l:Lv):∀ v,LvP l v→∀ m w,LvP m w→Pf C1 152 [v,w] [bv (eqLv l m)]:=by
 induction l using Lv.ind with
 |_ k n ls ih =>
 intro v h m w hm
 obtain ⟨_,_,_,b,z,xs,⟨rfl,rfl,rfl⟩,rfl,hz,hxs,hlen,hbd⟩:=h.open
 obtain ⟨k',n',ls',b',z',xs',rfl,rfl,hz',hxs',hlen',hbd'⟩:=hm.open
 have he:=jah ls ls' ih b b' z z' xs xs' hz hz' hxs hxs' (by omega) (by omega)
 refine j00 Tryz.func152 rfl rfl rfl ?_
 repeat' ((conv=>whnf);first|apply gF|refine gA ?_|refine gB ?_|apply gE<;>intro h|refine j03 rfl ?_|refine j01 he rfl rfl ?_)
 all_goals (try (conv=>whnf))
 all_goals simp_all [eqLv,retV]
theorem jfF (ts ts':List Tm) (hrec:∀ l ∈ ts,∀ v,TmP l v→∀ m w,TmP m w→Pf C1 100 [v,w] [bv (eqTm l m)]) (b b':Bool) (z z':Nat) (xs xs':List PV) (hz:z=5∨xs=[]) (hz':z'=5∨xs'=[]) (hxs:TmsP ts xs) (hxs':TmsP ts' xs') (hbd:ts.length ≤ 1759218604441) (hbd':ts'.length ≤ 1759218604441) :
  Pf C1 153 [.sl b z xs,.sl b' z' xs',jqL] [bv (decide (ts.length=ts'.length) && jcW ts ts')]:=by
 have hlen:=hxs.len
 have hlen':=hxs'.len
 refine j00 Tryz.func153 rfl rfl rfl ?_
 repeat' ((conv=>whnf);first|apply gN|apply gE<;>intro h|refine j03 rfl ?_)
 all_goals (try (conv=>whnf))
 ·have hl2:ts.length=ts'.length:=by omega
  refine j08 (G:=Nat) (fun i=>[(17,iv i)]) (fun _=>_) (fun i=>i ≤ ts.length∧jcW (ts.drop i) (ts'.drop i)=jcW ts ts') (fun i=>ts.length - i) 0 ⟨by omega,rfl⟩ rfl rfl ?_
  rintro i ⟨hi,hall⟩
  repeat' ((conv=>whnf);first|apply gE<;>intro h|apply gQ|refine j03 rfl ?_)
  all_goals (try (conv=>whnf))
  ·have hi':i < ts.length:=by omega
   obtain ⟨lc,hlc⟩:∃ lc,ts[i]? = some lc:=⟨_,List.getElem?_eq_getElem hi'⟩
   obtain ⟨mc,hmc⟩:∃ mc,ts'[i]? = some mc:=⟨_,List.getElem?_eq_getElem (by omega)⟩
   obtain ⟨v,hv,hl⟩:=hxs.at hlc
   obtain ⟨w,hw,hl'⟩:=hxs'.at hmc
   have hr:=hrec _ (List.mem_of_getElem? hlc) _ hl _ _ hl'
   obtain ⟨k1,n1,s1,l1,t1,b1,z1,x1,c1,y1,ys1,rfl,rfl,-⟩:=hl.open
   obtain ⟨k2,n2,s2,l2,t2,b2,z2,x2,c2,y2,ys2,rfl,rfl,-⟩:=hl'.open
   rw [drop_at hlc,drop_at hmc] at hall
   simp only [jcW] at hall
   repeat' ((conv=>whnf);first|apply gN|apply gM<;>intro h|apply gO|apply gQ|refine gV ?_|refine j03 rfl ?_|refine VIdx.mk _ hv ?_|refine VOk.mk (j07 rfl hz) ?_|refine VIdx.mk _ hw ?_|refine VOk.mk (j07 rfl hz') ?_|refine j01 hr rfl rfl ?_)
   all_goals (try (conv=>whnf))
   ·refine VAgain.mk _ rfl _ (j0h rfl rfl rfl) ⟨i + 1,⟨hi',?_⟩,by omega,rfl⟩
    rw [← hall]
    simp_all
   ·rw [← hall]
    simp_all
  ·have:i=ts.length:=by omega
   subst this
   rw [List.drop_length] at hall
   rw [← hall,decide_eq_true hl2]
   rfl
 ·rw [decide_eq_false (by omega)]
  rfl
theorem j8G (t:Tm):∀ v,TmP t v→∀ m w,TmP m w→Pf C1 100 [v,w] [bv (eqTm t m)]:=by
 induction t using Tm.ind with
 |_ k n s ls ts ih =>
 intro v h m w hm
 obtain ⟨_,_,_,_,_,b,z,xs,c,y,ys,⟨rfl,rfl,rfl,rfl,rfl⟩,rfl,hz,hxs,hlen,hbd,hy,hys,hlen2,hbd2,hsl⟩:=h.open
 obtain ⟨k',n',s',ls',ts',b',z',xs',c',y',ys',rfl,rfl,hz',hxs',hlen',hbd',hy',hys',hlen2',hbd2',hsl'⟩:=hm.open
 have he:=jah ls ls' (fun l _=>jlg l) b b' z z' xs xs' hz hz' hxs hxs' (by omega) (by omega)
 have hf:=jfF ts ts' ih c c' y y' ys ys' hy hy' hys hys' (by omega) (by omega)
 refine j00 Tryz.func100 rfl rfl rfl ?_
 repeat' ((conv=>whnf);first|apply gF|refine gA ?_|refine gB ?_|apply gE<;>intro h|refine gC ?_|refine gD ?_|apply gM<;>intro h|refine j03 rfl ?_|refine j3C ?_|refine j01 he rfl rfl ?_|refine j01 hf rfl rfl ?_)
 all_goals (try (conv=>whnf))
 all_goals simp_all [eqTm,retV]
end Go.Proofs.YtljnahbgfmflaaaGreatDoor

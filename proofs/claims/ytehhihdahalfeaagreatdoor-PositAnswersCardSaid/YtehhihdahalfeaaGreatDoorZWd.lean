/-
  slices.Reverse at a row of terms, and a term's head with what it is applied to (term.Spine). No statement of the seat.
-/
import Derived.Test.YtehhihdahalfeaaGreatDoorZLj
import Derived.Test.YtehhihdahalfeaaGreatDoorZTw
set_option linter.unusedVariables false
set_option linter.unusedSimpArgs false
set_option linter.unnecessarySimpa false
namespace Go.Proofs.YtehhihdahalfeaaGreatDoor
open Go Go.Am Go.Gw
/-- a term's head; what it is applied to, the last one first -/
def spF:Tm→Tm × List Tm
  | .mk k n s ls ts=>match ts with
    |[f,a]=>if k=4 then ((spF f).1,a :: (spF f).2) else (.mk k n s ls [f,a],[])
    |ts=>(.mk k n s ls ts,[])
/-- how far a row is turned -/
def Turned (ts us:List Tm) (i:Nat):Prop:=us.length=ts.length∧∀ j,j < ts.length→us[j]? = if j < i∨ts.length ≤ j + i then ts[ts.length - 1 - j]? else ts[j]?
theorem turned_0 (ts:List Tm):Turned ts ts 0:=⟨rfl,fun j hj=>by rw [if_neg (by omega)]⟩
theorem turned_end {ts us:List Tm} {i:Nat} (h:Turned ts us i) (hi:ts.length ≤ 2 * i + 1):us=ts.reverse:=by
  apply List.ext_getElem?
  intro j
  rcases Nat.lt_or_ge j ts.length with hj|hj
  · rw [h.2 j hj,List.getElem?_reverse hj]
    split
    · rfl
    · rw [show ts.length - 1 - j=j by omega]
  · rw [List.getElem?_eq_none (by rw [h.1]; exact hj),List.getElem?_eq_none (by simpa using hj)]
theorem turned_next {ts us:List Tm} {i:Nat} {a b:Tm} (h:Turned ts us i) (hi:2 * i + 1 < ts.length) (ha:us[i]? = some a) (hb:us[ts.length - 1 - i]? = some b):Turned ts ((us.set i b).set (ts.length - 1 - i) a) (i + 1):=by
  obtain ⟨hl,h⟩:=h
  refine ⟨by simp [hl],fun j hj=>?_⟩
  rw [h i (by omega),if_neg (by omega)] at ha
  rw [h _ (by omega),if_neg (by omega)] at hb
  rw [List.getElem?_set,List.getElem?_set]
  by_cases h1:ts.length - 1 - i=j
  · rw [if_pos h1,if_pos (by simp [hl]; omega),if_pos (by omega),← ha]
    congr 1
    omega
  · rw [if_neg h1]
    by_cases h2:i=j
    · subst h2
      rw [if_pos rfl,if_pos (by simp [hl]; omega),if_pos (by omega),← hb]
    · rw [if_neg h2,h j hj]
      by_cases h3:j < i∨ts.length ≤ j + i
      · rw [if_pos h3,if_pos (by omega)]
      · rw [if_neg h3,if_neg (by omega)]
set_option maxHeartbeats 2000000 in
set_option maxRecDepth 100000 in
theorem Reverse_can (ts:List Tm) (hl:ts.length ≤ 1000000):Finds C1 165 [.ms 0 ts.length] [.row false 25 5 (ts.map encT)] fun r st=>r = .ret []∧st=[.row false 25 5 (ts.reverse.map encT)]:=by
  have hbl:Nat.beq ts.length (ts.map encT).length=true:=by simp
  refine run_intro Tryz.func165 rfl rfl rfl ?_
  repeat' ((conv=>whnf);first|refine gT ?_|refine gF ?_|refine VIf.not ?_|refine gA ?_|refine gB ?_|refine VIf.dec (fun h=>?_) (fun h=>?_)|refine gC ?_|refine gD ?_|refine VIf.mk (fun h=>?_) (fun h=>?_)|refine gO ?_|refine gP ?_|refine VNat.mk _ rfl ?_|refine gV ?_|refine vret_pf rfl ?_|refine vret_take rfl rfl ?_|refine VOk.mk hbl ?_|refine gK ?_)
  all_goals (try (conv=>whnf))
  refine loop_over (G:=Nat × List Tm) (fun g=>[(2,iv g.1),(3,iv ((ts.length:Int) - 1 - g.1))]) (fun g=>[.row false 25 5 (g.2.map encT)]) (fun g=>2 * g.1 ≤ ts.length∧Turned ts g.2 g.1) (fun g=>ts.length - g.1) (0,ts) ⟨by omega,turned_0 ts⟩ (by rw [show ((ts.length:Int) - 1 - ((0:Nat):Int))=ts.length - 1 by omega]; rfl) rfl ?_
  rintro ⟨i,us⟩ ⟨hi,ht⟩
  dsimp only at hi ht ⊢
  have hul:us.length=ts.length:=ht.1
  repeat' ((conv=>whnf);first|refine gT ?_|refine gF ?_|refine VIf.not ?_|refine gA ?_|refine gB ?_|refine VIf.dec (fun h=>?_) (fun h=>?_)|refine gC ?_|refine gD ?_|refine VIf.mk (fun h=>?_) (fun h=>?_)|refine gO ?_|refine gP ?_|refine VNat.mk _ rfl ?_|refine gV ?_|refine vret_pf rfl ?_|refine vret_take rfl rfl ?_|refine gK ?_)
  all_goals (try (conv=>whnf))
  · have hlt:2 * i + 1 < ts.length:=by omega
    obtain ⟨a,ha⟩:∃ a,us[i]? = some a:=⟨_,List.getElem?_eq_getElem (by omega)⟩
    obtain ⟨c,hc⟩:∃ c,us[ts.length - 1 - i]? = some c:=⟨_,List.getElem?_eq_getElem (by omega)⟩
    have hae:(us.map encT)[i]? = some (encT a):=by rw [List.getElem?_map,ha]; rfl
    have hce:(us.map encT)[ts.length - 1 - i]? = some (encT c):=by rw [List.getElem?_map,hc]; rfl
    have hn:=turned_next ht hlt ha hc
    obtain ⟨k1,n1,s1,b1,z1,x1,c1,y1,ys1,he1⟩:=encT_open a
    obtain ⟨k2,n2,s2,b2,z2,x2,c2,y2,ys2,he2⟩:=encT_open c
    rw [he1] at hae
    rw [he2] at hce
    have o1:(Nat.beq ts.length (us.map encT).length && Nat.blt (ts.length - 1 - i) ts.length && Nat.beq 5 5)=true:=by simp [hul,Nat.blt_eq]; omega
    have o2:(Nat.beq ts.length (us.map encT).length && Nat.blt i ts.length && Nat.beq 5 5)=true:=by simp [hul,Nat.blt_eq]; omega
    have hub:Nat.beq ts.length (us.map encT).length=true:=by simp [hul]
    have o3:∀ e:PV,(Nat.beq ts.length ((us.map encT).set i e).length && Nat.blt (ts.length - 1 - i) ts.length && Nat.beq 5 5)=true:=fun e=>by simp [hul,Nat.blt_eq]; omega
    have o4:∀ e:PV,Nat.beq ts.length ((us.map encT).set i e).length=true:=fun e=>by simp [hul]
    have hce2:∀ e:PV,((us.map encT).set i e)[ts.length - 1 - i]? = some (.ag [iv k2,iv n2,sv s2,.sl b2 z2 x2,.sl c2 y2 ys2]):=fun e=>by rw [List.getElem?_set_ne (by omega)]; exact hce
    repeat' ((conv=>whnf);first|refine gT ?_|refine gF ?_|refine VIf.not ?_|refine gA ?_|refine gB ?_|refine VIf.dec (fun h=>?_) (fun h=>?_)|refine gC ?_|refine gD ?_|refine VIf.mk (fun h=>?_) (fun h=>?_)|refine gO ?_|refine gP ?_|refine VNat.mk _ rfl ?_|refine gV ?_|refine vret_pf rfl ?_|refine vret_take rfl rfl ?_|refine VOk.mk hub ?_|refine VOk.mk (o3 _) ?_|refine VOk.mk (o4 _) ?_|refine VIdx.mk _ (hce2 _) ?_|refine VNat.mk (ts.length - 1 - i) (show ((ts.length:Int) - 1 - i)=((ts.length - 1 - i:Nat):Int) by omega) ?_|refine VNat.mk i rfl ?_|refine VOk.mk o1 ?_|refine VOk.mk o2 ?_|refine VIdx.mk _ hae ?_|refine VIdx.mk _ hce ?_|refine gK ?_)
    all_goals (try (conv=>whnf))
    refine VAgain.mk _ rfl _ (gc_same rfl) ⟨(i + 1,(us.set i c).set (ts.length - 1 - i) a),⟨by dsimp only; omega,hn⟩,by dsimp only; omega,?_⟩
    dsimp only
    rw [List.map_set,List.map_set,he1,he2,show ((ts.length:Int) - 1 - ((i + 1:Nat):Int))=ts.length - 1 - i - 1 by omega]
    rfl
  · obtain rfl:=turned_end ht (by omega)
    exact vret_take_shr rfl rfl (.cons (shr_row (encTs_pure _ 6)) .nil) rfl ⟨rfl,rfl⟩
theorem reverseNil_can:Pf C1 165 [.sl true 0 []] []:=pf_of (st':=[]) 20 (by kernel_rfl)
theorem spF_app {n:Int} {s:List UInt8} {ls:List Lv} {f a:Tm}:spF (.mk 4 n s ls [f,a])=((spF f).1,a :: (spF f).2):=by
  rw [spF,if_pos rfl]
theorem spF_off {k n:Int} {s:List UInt8} {ls:List Lv} {ts:List Tm} (h:¬ (k=4∧ts.length=2)):spF (.mk k n s ls ts)=(.mk k n s ls ts,[]):=by
  unfold spF
  split
  · rw [if_neg (fun e=>h ⟨e,rfl⟩)]
  · rfl
/-- what a term is applied to -/
def argsF (t:Tm):List Tm:=(spF t).2.reverse
def spS (z:List PV) (g:List Tm × Tm × PV):Sto:=match g.1 with
  |[]=>[.box 25 g.2.2.cells,.box 25 z]
  |a :: r=>[.box 25 g.2.2.cells,.box 25 z,.row false 25 5 ((a :: r).map encT)]
set_option maxHeartbeats 2000000 in
set_option maxRecDepth 100000 in
theorem Spine_can (t:Tm) (v:PV) (hT:TmP t v) (hbd:(spF t).2.length ≤ 2000):Pf C1 121 [v] [encT (spF t).1,encTv (argsF t)]:=by
  obtain ⟨k0,nn0,s0,ls0,ts0,b0,z0,xs0,c0,y0,ys0,rfl,rfl,-⟩:=hT.open
  refine run_intro Tryz.func121 rfl rfl rfl ?_
  repeat' ((conv=>whnf);first|refine gT ?_|refine gF ?_|refine VIf.not ?_|refine gA ?_|refine gB ?_|refine VIf.dec (fun h=>?_) (fun h=>?_)|refine gC ?_|refine gD ?_|refine VIf.mk (fun h=>?_) (fun h=>?_)|refine gO ?_|refine gP ?_|refine VNat.mk _ rfl ?_|refine gV ?_|refine vret_pf rfl ?_|refine vret_take rfl rfl ?_|refine gK ?_)
  all_goals (try (conv=>whnf))
  refine loop_over (G:=List Tm × Tm × PV) (fun g=>[(4,match g.1 with
        |[]=>.sl true 0 []
        |a :: r=>.ms 2 (r.length + 1))]) (spS zTm) (fun g=>TmP g.2.1 g.2.2∧(spF g.2.1).1=(spF (.mk k0 nn0 s0 ls0 ts0)).1∧g.1 ++ (spF g.2.1).2=(spF (.mk k0 nn0 s0 ls0 ts0)).2) (fun g=>sizT g.2.1) ([],.mk k0 nn0 s0 ls0 ts0,.ag [iv k0,iv nn0,sv s0,.sl b0 z0 xs0,.sl c0 y0 ys0]) ⟨hT,rfl,rfl⟩ rfl rfl ?_
  rintro ⟨don,u,w⟩ ⟨hu,hh,ha⟩
  dsimp only at hu hh ha
  have hfr:=fresh_can u w hu
  obtain ⟨k9,n9,s9,b9,z9,x9,c9,y9,ys9,he9⟩:=encT_open u
  have hlen:don.length + (spF u).2.length ≤ 2000:=by rw [← List.length_append,ha]; exact hbd
  rw [he9] at hfr
  obtain ⟨k,nn,s,ls,ts,b,z,xs,c,y,ys,rfl,rfl,hz,hxs,hlen1,hbd1,hy,hys,hlen2,hbd2,hsl⟩:=hu.open
  have hround:k=4→ts.length=2→∃ f a,ts=[f,a]∧(spF f).1=(spF (.mk k0 nn0 s0 ls0 ts0)).1∧(don ++ [a]) ++ (spF f).2=(spF (.mk k0 nn0 s0 ls0 ts0)).2∧don.length + 1 ≤ 2000:=by
    rintro rfl h2
    match ts,h2 with
    |[f,a],_ =>
      rw [spF_app] at hh ha hlen
      refine ⟨f,a,rfl,hh,?_,?_⟩
      · rw [List.append_assoc]
        exact ha
      · simp only [List.length_cons] at hlen
        omega
  have hend:¬ (k=4∧ts.length=2)→(spF (.mk k0 nn0 s0 ls0 ts0)).1 = .mk k nn s ls ts∧(spF (.mk k0 nn0 s0 ls0 ts0)).2=don:=fun h=>by
    rw [spF_off h] at hh ha
    exact ⟨hh.symm,by simpa using ha.symm⟩
  cases don with
  |nil =>
    simp only [PV.cells,spS]
    repeat' ((conv=>whnf);first|refine gT ?_|refine gF ?_|refine VIf.not ?_|refine gA ?_|refine gB ?_|refine VIf.dec (fun h=>?_) (fun h=>?_)|refine gC ?_|refine gD ?_|refine VIf.mk (fun h=>?_) (fun h=>?_)|refine gO ?_|refine gP ?_|refine VNat.mk _ rfl ?_|refine gV ?_|refine vret_pf rfl ?_|refine vret_take rfl rfl ?_|refine vcall_pf hfr rfl rfl ?_|refine vcall_pf reverseNil_can rfl rfl ?_|refine gK ?_)
    all_goals (try (conv=>whnf))
    · obtain ⟨f1,a1,rfl,hh1,ha1,hl1⟩:=hround (by assumption) (by omega)
      obtain ⟨va,hva,hla⟩:=hys.at (by rfl:[f1,a1][1]? = some a1)
      obtain ⟨vb,hvb,hlb⟩:=hys.at (by rfl:[f1,a1][0]? = some f1)
      have hAa:=fresh_can a1 va hla
      obtain ⟨k3,n3,s3,b3,z3,x3,c3,y3,ys3,he3⟩:=encT_open a1
      rw [he3] at hAa
      obtain ⟨k1,n1,s1,l1,t1,b4,z1,x1,c1,y1,ys1,rfl,rfl,-⟩:=hla.open
      obtain ⟨k2,n2,s2,l2,t2,b5,z2,x2,c2,y2,ys2,rfl,rfl,-⟩:=hlb.open
      repeat' ((conv=>whnf);first|refine gT ?_|refine gF ?_|refine VIf.not ?_|refine gA ?_|refine gB ?_|refine VIf.dec (fun h=>?_) (fun h=>?_)|refine gC ?_|refine gD ?_|refine VIf.mk (fun h=>?_) (fun h=>?_)|refine gO ?_|refine gP ?_|refine VNat.mk _ rfl ?_|refine gV ?_|refine vret_pf rfl ?_|refine vret_take rfl rfl ?_|refine VIdx.mk _ hva ?_|refine VIdx.mk _ hvb ?_|refine VOk.mk (szOk_of rfl hy) ?_|refine vcall_pf hAa rfl rfl ?_|refine gK ?_)
      all_goals (try (conv=>whnf))
      have e:[Tm.mk k1 n1 s1 l1 t1].map encT=[.ag [iv k3,iv n3,sv s3,.sl b3 z3 x3,.sl c3 y3 ys3]]:=by rw [List.map_cons,he3]; rfl
      exact VAgain.mk _ rfl _ (gc_sh (.cons (sh_box rfl rfl) (.cons (sh_box rfl rfl) (.cons (sh_row rfl) .nil))) (.cons (sh_box rfl rfl) (.cons (sh_box rfl rfl) (.cons (sh_row rfl) .nil))) rfl rfl rfl rfl rfl) ⟨([Tm.mk k1 n1 s1 l1 t1],Tm.mk k2 n2 s2 l2 t2,.ag [iv k2,iv n2,sv s2,.sl b5 z2 x2,.sl c2 y2 ys2]),⟨hlb,hh1,ha1⟩,by simp only [sizT,sizTs]; omega,by dsimp only [spS]; rw [e]; rfl⟩
    all_goals
      obtain ⟨e1,e2⟩:=hend (by omega)
      have e3:argsF (.mk k0 nn0 s0 ls0 ts0)=[]:=by rw [argsF,e2]; rfl
      rw [e1,e3,he9]
      rfl
  |cons d dr =>
    simp only [PV.cells,spS]
    have hbl:Nat.beq (dr.length + 1) ((d :: dr).map encT).length=true:=by simp
    have hrv:=Reverse_can (d :: dr) (by simp only [List.length_cons] at hlen ⊢; omega)
    repeat' ((conv=>whnf);first|refine gT ?_|refine gF ?_|refine VIf.not ?_|refine gA ?_|refine gB ?_|refine VIf.dec (fun h=>?_) (fun h=>?_)|refine gC ?_|refine gD ?_|refine VIf.mk (fun h=>?_) (fun h=>?_)|refine gO ?_|refine gP ?_|refine VNat.mk _ rfl ?_|refine gV ?_|refine vret_pf rfl ?_|refine vret_take rfl rfl ?_|refine VOk.mk hbl ?_|refine vcall_pf hfr rfl rfl ?_|refine gK ?_)
    all_goals (try (conv=>whnf))
    · obtain ⟨f1,a1,rfl,hh1,ha1,hl1⟩:=hround (by assumption) (by omega)
      obtain ⟨va,hva,hla⟩:=hys.at (by rfl:[f1,a1][1]? = some a1)
      obtain ⟨vb,hvb,hlb⟩:=hys.at (by rfl:[f1,a1][0]? = some f1)
      have hAa:=fresh_can a1 va hla
      obtain ⟨k3,n3,s3,b3,z3,x3,c3,y3,ys3,he3⟩:=encT_open a1
      rw [he3] at hAa
      obtain ⟨k1,n1,s1,l1,t1,b4,z1,x1,c1,y1,ys1,rfl,rfl,-⟩:=hla.open
      obtain ⟨k2,n2,s2,l2,t2,b5,z2,x2,c2,y2,ys2,rfl,rfl,-⟩:=hlb.open
      have hp8:((d :: dr).map encT ++ [PV.ag [iv k3,iv n3,sv s3,.sl b3 z3 x3,.sl c3 y3 ys3]]).all (pur 8)=true:=by
        rw [← he3,show (d :: dr).map encT ++ [encT (Tm.mk k1 n1 s1 l1 t1)]=(d :: dr ++ [Tm.mk k1 n1 s1 l1 t1]).map encT by simp]
        exact encTs_pure _ 6
      repeat' ((conv=>whnf);first|refine gT ?_|refine gF ?_|refine VIf.not ?_|refine gA ?_|refine gB ?_|refine VIf.dec (fun h=>?_) (fun h=>?_)|refine gC ?_|refine gD ?_|refine VIf.mk (fun h=>?_) (fun h=>?_)|refine gO ?_|refine gP ?_|refine VNat.mk _ rfl ?_|refine gV ?_|refine vret_pf rfl ?_|refine vret_take rfl rfl ?_|refine VIdx.mk _ hva ?_|refine VIdx.mk _ hvb ?_|refine VOk.mk (szOk_of rfl hy) ?_|refine vcall_pf hAa rfl rfl ?_|refine VOk.mk (grow_ok (w:=80) (r:=140737488355328) (by simp:((d :: dr).map encT).length=dr.length + 1) rfl rfl rfl rfl (by simp only [List.length_cons,List.length_nil] at hl1 ⊢; omega) (by simp only [List.length_cons,List.length_nil] at hl1 ⊢; omega)) ?_|refine gK ?_)
      all_goals (try (conv=>whnf))
      have e:(d :: (dr ++ [Tm.mk k1 n1 s1 l1 t1])).map encT=(d :: dr).map encT ++ [.ag [iv k3,iv n3,sv s3,.sl b3 z3 x3,.sl c3 y3 ys3]]:=by rw [← he3]; simp
      have el:(dr ++ [Tm.mk k1 n1 s1 l1 t1]).length + 1=dr.length + 1 + 1:=by simp
      refine VAgain.mk _ rfl _ (gc_sh (.cons (sh_box rfl rfl) (.cons (sh_box rfl rfl) (.cons (sh_row hp8) .nil))) (.cons (sh_box rfl rfl) (.cons (sh_box rfl rfl) (.cons (sh_row hp8) .nil))) rfl rfl rfl rfl rfl) ⟨(d :: (dr ++ [Tm.mk k1 n1 s1 l1 t1]),Tm.mk k2 n2 s2 l2 t2,.ag [iv k2,iv n2,sv s2,.sl b5 z2 x2,.sl c2 y2 ys2]),⟨hlb,hh1,?_⟩,by simp only [sizT,sizTs]; omega,?_⟩
      · exact ha1
      · dsimp only [spS]
        rw [e,el]
        rfl
    all_goals
      obtain ⟨e1,e2⟩:=hend (by omega)
      have e3:argsF (.mk k0 nn0 s0 ls0 ts0)=(d :: dr).reverse:=by rw [argsF,e2]
      refine vcall_shr rfl rfl (.cons (shr_box rfl rfl) (.cons (shr_box rfl rfl) (.cons (shr_row (encTs_pure _ 6)) .nil))) rfl rfl rfl rfl (Finds.mono hrv ?_)
      rintro _ _ ⟨rfl,rfl⟩
      refine vback_f (.cons (shr_row (encTs_pure _ 6)) .nil) rfl ?_
      repeat' ((conv=>whnf);first|refine gT ?_|refine gF ?_|refine VIf.not ?_|refine gA ?_|refine gB ?_|refine VIf.dec (fun h=>?_) (fun h=>?_)|refine gC ?_|refine gD ?_|refine VIf.mk (fun h=>?_) (fun h=>?_)|refine gO ?_|refine gP ?_|refine VNat.mk _ rfl ?_|refine gV ?_|refine vret_pf rfl ?_|refine vret_take rfl rfl ?_|refine vcall_pf hfr rfl rfl ?_|refine gK ?_)
      all_goals (try (conv=>whnf))
      refine vret_pub rfl (mapS_cons rfl (mapS_cons (pubV_row rfl (by simp) (encTs_pure _ 4)) mapS_nil)) rfl ?_
      rw [e1,e3,he9,encTv_pos (by simp)]
      try rfl
end Go.Proofs.YtehhihdahalfeaaGreatDoor
namespace Go.Proofs.YtehhihdahalfeaaGreatDoor
open Go Go.Am Go.Gw
def alikeP:PV:=.fn 183 [] []
def sameP:PV:=.fn 144 [] []
set_option maxHeartbeats 1000000 in
set_option maxRecDepth 100000 in
theorem eqFuncL_can (ls ls':List Lv) (hrec:∀ l ∈ ls,∀ v,LvP l v→∀ m w,LvP m w→Pf C1 183 [v,w] [bv (eqLv l m)]) (b b':Bool) (z z':Nat) (xs xs':List PV) (hz:z=3∨xs=[]) (hz':z'=3∨xs'=[]) (hxs:LvsP ls xs) (hxs':LvsP ls' xs') (hbd:ls.length ≤ 3518437208780) (hbd':ls'.length ≤ 3518437208780) :
    Pf C1 182 [.sl b z xs,.sl b' z' xs',alikeP] [bv (decide (ls.length=ls'.length) && eqLvs ls ls')]:=by
  have hlen:=hxs.len
  have hlen':=hxs'.len
  refine run_intro Tryz.func182 rfl rfl rfl ?_
  repeat' ((conv=>whnf);first|refine gT ?_|refine gF ?_|refine VIf.not ?_|refine gA ?_|refine gB ?_|refine VIf.dec (fun h=>?_) (fun h=>?_)|refine gC ?_|refine gD ?_|refine VIf.mk (fun h=>?_) (fun h=>?_)|refine gO ?_|refine gP ?_|refine VNat.mk _ rfl ?_|refine gV ?_|refine vret_pf rfl ?_|refine vret_take rfl rfl ?_|refine gK ?_)
  all_goals (try (conv=>whnf))
  · have hl2:ls.length=ls'.length:=by omega
    refine loop_over (G:=Nat) (fun i=>[(17,iv i)]) (fun _=>_) (fun i=>i ≤ ls.length∧eqLvs (ls.drop i) (ls'.drop i)=eqLvs ls ls') (fun i=>ls.length - i) 0 ⟨by omega,rfl⟩ rfl rfl ?_
    rintro i ⟨hi,hall⟩
    repeat' ((conv=>whnf);first|refine gT ?_|refine gF ?_|refine VIf.not ?_|refine gA ?_|refine gB ?_|refine VIf.dec (fun h=>?_) (fun h=>?_)|refine gC ?_|refine gD ?_|refine VIf.mk (fun h=>?_) (fun h=>?_)|refine gO ?_|refine gP ?_|refine VNat.mk _ rfl ?_|refine gV ?_|refine vret_pf rfl ?_|refine vret_take rfl rfl ?_|refine gK ?_)
    all_goals (try (conv=>whnf))
    · have hi':i < ls.length:=by omega
      obtain ⟨lc,hlc⟩:∃ lc,ls[i]? = some lc:=⟨_,List.getElem?_eq_getElem hi'⟩
      obtain ⟨mc,hmc⟩:∃ mc,ls'[i]? = some mc:=⟨_,List.getElem?_eq_getElem (by omega)⟩
      obtain ⟨v,hv,hl⟩:=hxs.at hlc
      obtain ⟨w,hw,hl'⟩:=hxs'.at hmc
      have hr:=hrec _ (List.mem_of_getElem? hlc) _ hl _ _ hl'
      obtain ⟨k1,n1,l1,b1,z1,x1,rfl,rfl,hz1,hxs1,hlen1,hbd1⟩:=hl.open
      obtain ⟨k2,n2,l2,b2,z2,x2,rfl,rfl,hz2,hxs2,hlen2,hbd2⟩:=hl'.open
      rw [drop_at hlc,drop_at hmc] at hall
      simp only [eqLvs] at hall
      repeat' ((conv=>whnf);first|refine gT ?_|refine gF ?_|refine VIf.not ?_|refine gA ?_|refine gB ?_|refine VIf.dec (fun h=>?_) (fun h=>?_)|refine gC ?_|refine gD ?_|refine VIf.mk (fun h=>?_) (fun h=>?_)|refine gO ?_|refine gP ?_|refine VNat.mk _ rfl ?_|refine gV ?_|refine vret_pf rfl ?_|refine vret_take rfl rfl ?_|refine VIdx.mk _ hv ?_|refine VOk.mk (szOk_of rfl hz) ?_|refine VIdx.mk _ hw ?_|refine VOk.mk (szOk_of rfl hz') ?_|refine vcall_pf hr rfl rfl ?_|refine gK ?_)
      all_goals (try (conv=>whnf))
      · refine VAgain.mk _ rfl _ (gc_take rfl rfl rfl) ⟨i + 1,⟨hi',?_⟩,by omega,rfl⟩
        rw [← hall]
        simp_all
      · rw [← hall]
        simp_all
    · have:i=ls.length:=by omega
      subst this
      rw [List.drop_length] at hall
      rw [← hall,decide_eq_true hl2]
      rfl
  · rw [decide_eq_false (by omega)]
    rfl
set_option maxHeartbeats 1000000 in
set_option maxRecDepth 100000 in
theorem alike_can (l:Lv):∀ v,LvP l v→∀ m w,LvP m w→Pf C1 183 [v,w] [bv (eqLv l m)]:=by
  induction l using Lv.ind with
  |_ k n ls ih =>
  intro v h m w hm
  obtain ⟨_,_,_,b,z,xs,⟨rfl,rfl,rfl⟩,rfl,hz,hxs,hlen,hbd⟩:=h.open
  obtain ⟨k',n',ls',b',z',xs',rfl,rfl,hz',hxs',hlen',hbd'⟩:=hm.open
  have he:=eqFuncL_can ls ls' ih b b' z z' xs xs' hz hz' hxs hxs' (by omega) (by omega)
  refine run_intro Tryz.func183 rfl rfl rfl ?_
  repeat' ((conv=>whnf);first|refine gT ?_|refine gF ?_|refine VIf.not ?_|refine gA ?_|refine gB ?_|refine VIf.dec (fun h=>?_) (fun h=>?_)|refine gC ?_|refine gD ?_|refine VIf.mk (fun h=>?_) (fun h=>?_)|refine gO ?_|refine gP ?_|refine VNat.mk _ rfl ?_|refine gV ?_|refine vret_pf rfl ?_|refine vret_take rfl rfl ?_|refine vcall_pf he rfl rfl ?_|refine gK ?_)
  all_goals (try (conv=>whnf))
  all_goals simp_all [eqLv,retV]
set_option maxHeartbeats 1000000 in
set_option maxRecDepth 100000 in
theorem eqFuncT_can (ts ts':List Tm) (hrec:∀ l ∈ ts,∀ v,TmP l v→∀ m w,TmP m w→Pf C1 144 [v,w] [bv (eqTm l m)]) (b b':Bool) (z z':Nat) (xs xs':List PV) (hz:z=5∨xs=[]) (hz':z'=5∨xs'=[]) (hxs:TmsP ts xs) (hxs':TmsP ts' xs') (hbd:ts.length ≤ 1759218604441) (hbd':ts'.length ≤ 1759218604441) :
    Pf C1 184 [.sl b z xs,.sl b' z' xs',sameP] [bv (decide (ts.length=ts'.length) && eqTms ts ts')]:=by
  have hlen:=hxs.len
  have hlen':=hxs'.len
  refine run_intro Tryz.func184 rfl rfl rfl ?_
  repeat' ((conv=>whnf);first|refine gT ?_|refine gF ?_|refine VIf.not ?_|refine gA ?_|refine gB ?_|refine VIf.dec (fun h=>?_) (fun h=>?_)|refine gC ?_|refine gD ?_|refine VIf.mk (fun h=>?_) (fun h=>?_)|refine gO ?_|refine gP ?_|refine VNat.mk _ rfl ?_|refine gV ?_|refine vret_pf rfl ?_|refine vret_take rfl rfl ?_|refine gK ?_)
  all_goals (try (conv=>whnf))
  · have hl2:ts.length=ts'.length:=by omega
    refine loop_over (G:=Nat) (fun i=>[(17,iv i)]) (fun _=>_) (fun i=>i ≤ ts.length∧eqTms (ts.drop i) (ts'.drop i)=eqTms ts ts') (fun i=>ts.length - i) 0 ⟨by omega,rfl⟩ rfl rfl ?_
    rintro i ⟨hi,hall⟩
    repeat' ((conv=>whnf);first|refine gT ?_|refine gF ?_|refine VIf.not ?_|refine gA ?_|refine gB ?_|refine VIf.dec (fun h=>?_) (fun h=>?_)|refine gC ?_|refine gD ?_|refine VIf.mk (fun h=>?_) (fun h=>?_)|refine gO ?_|refine gP ?_|refine VNat.mk _ rfl ?_|refine gV ?_|refine vret_pf rfl ?_|refine vret_take rfl rfl ?_|refine gK ?_)
    all_goals (try (conv=>whnf))
    · have hi':i < ts.length:=by omega
      obtain ⟨lc,hlc⟩:∃ lc,ts[i]? = some lc:=⟨_,List.getElem?_eq_getElem hi'⟩
      obtain ⟨mc,hmc⟩:∃ mc,ts'[i]? = some mc:=⟨_,List.getElem?_eq_getElem (by omega)⟩
      obtain ⟨v,hv,hl⟩:=hxs.at hlc
      obtain ⟨w,hw,hl'⟩:=hxs'.at hmc
      have hr:=hrec _ (List.mem_of_getElem? hlc) _ hl _ _ hl'
      obtain ⟨k1,n1,s1,l1,t1,b1,z1,x1,c1,y1,ys1,rfl,rfl,-⟩:=hl.open
      obtain ⟨k2,n2,s2,l2,t2,b2,z2,x2,c2,y2,ys2,rfl,rfl,-⟩:=hl'.open
      rw [drop_at hlc,drop_at hmc] at hall
      simp only [eqTms] at hall
      repeat' ((conv=>whnf);first|refine gT ?_|refine gF ?_|refine VIf.not ?_|refine gA ?_|refine gB ?_|refine VIf.dec (fun h=>?_) (fun h=>?_)|refine gC ?_|refine gD ?_|refine VIf.mk (fun h=>?_) (fun h=>?_)|refine gO ?_|refine gP ?_|refine VNat.mk _ rfl ?_|refine gV ?_|refine vret_pf rfl ?_|refine vret_take rfl rfl ?_|refine VIdx.mk _ hv ?_|refine VOk.mk (szOk_of rfl hz) ?_|refine VIdx.mk _ hw ?_|refine VOk.mk (szOk_of rfl hz') ?_|refine vcall_pf hr rfl rfl ?_|refine gK ?_)
      all_goals (try (conv=>whnf))
      · refine VAgain.mk _ rfl _ (gc_take rfl rfl rfl) ⟨i + 1,⟨hi',?_⟩,by omega,rfl⟩
        rw [← hall]
        simp_all
      · rw [← hall]
        simp_all
    · have:i=ts.length:=by omega
      subst this
      rw [List.drop_length] at hall
      rw [← hall,decide_eq_true hl2]
      rfl
  · rw [decide_eq_false (by omega)]
    rfl
set_option maxHeartbeats 1000000 in
set_option maxRecDepth 100000 in
theorem Same_can (t:Tm):∀ v,TmP t v→∀ m w,TmP m w→Pf C1 144 [v,w] [bv (eqTm t m)]:=by
  induction t using Tm.ind with
  |_ k n s ls ts ih =>
  intro v h m w hm
  obtain ⟨_,_,_,_,_,b,z,xs,c,y,ys,⟨rfl,rfl,rfl,rfl,rfl⟩,rfl,hz,hxs,hlen,hbd,hy,hys,hlen2,hbd2,hsl⟩:=h.open
  obtain ⟨k',n',s',ls',ts',b',z',xs',c',y',ys',rfl,rfl,hz',hxs',hlen',hbd',hy',hys',hlen2',hbd2',hsl'⟩:=hm.open
  have he:=eqFuncL_can ls ls' (fun l _=>alike_can l) b b' z z' xs xs' hz hz' hxs hxs' (by omega) (by omega)
  have hf:=eqFuncT_can ts ts' ih c c' y y' ys ys' hy hy' hys hys' (by omega) (by omega)
  refine run_intro Tryz.func144 rfl rfl rfl ?_
  repeat' ((conv=>whnf);first|refine gT ?_|refine gF ?_|refine VIf.not ?_|refine gA ?_|refine gB ?_|refine VIf.dec (fun h=>?_) (fun h=>?_)|refine gC ?_|refine gD ?_|refine VIf.mk (fun h=>?_) (fun h=>?_)|refine gO ?_|refine gP ?_|refine VNat.mk _ rfl ?_|refine gV ?_|refine vret_pf rfl ?_|refine vret_take rfl rfl ?_|refine vres_str ?_|refine vcall_pf he rfl rfl ?_|refine vcall_pf hf rfl rfl ?_|refine gK ?_)
  all_goals (try (conv=>whnf))
  all_goals simp_all [eqTm,retV]
end Go.Proofs.YtehhihdahalfeaaGreatDoor
namespace Go.Proofs.YtehhihdahalfeaaGreatDoor
open Go Go.Am Go.Gw
/-- a maker, as it lies -/
inductive MkP (nm:List UInt8) (p fx idx:Int) (self:Tm):PV→Prop where
  |mk (k:Int) (a1 a2 a3 a4 a5 v1 v2 v3 v4 v5 cs:PV) (j1 j2:Int) (js:List UInt8) (j3:Bool) (j4:Nat) (j5:List PV) (j6:Bool) (j7:Nat) (j8:List PV) (h:TmP self (.ag [iv j1,iv j2,sv js,.sl j3 j4 j5,.sl j6 j7 j8])) :
    MkP nm p fx idx self (.cp [iv k,iv p,sv nm,a1,a2,a3,a4,a5,v1,v2,v3,v4,v5,iv fx,cs,iv j1,iv j2,sv js,.sl j3 j4 j5,.sl j6 j7 j8,iv idx])
def stF (nm:List UInt8) (t:Tm):Bool:=decide (nm ∈ ConstsF t)
def standsP (M:PV):PV:=.fn 108 [M] []
section
variable {nm:List UInt8} {p fx idx:Int} {self:Tm} {M:PV}
set_option maxRecDepth 100000 in
theorem mstands_can (hM:MkP nm p fx idx self M) (t:Tm) (v:PV) (h:TmP t v):Pf C1 108 [M,v] [bv (stF nm t)]:=by
  have ho:=Occurs_can t v h nm
  obtain ⟨k,a1,a2,a3,a4,a5,v1,v2,v3,v4,v5,cs,j1,j2,js,j3,j4,j5,j6,j7,j8,-⟩:=hM
  obtain ⟨k0,nn0,s0,ls0,ts0,b0,z0,xs0,c0,y0,ys0,rfl,rfl,-⟩:=h.open
  refine run_intro Tryz.func108 rfl rfl rfl ?_
  repeat' ((conv=>whnf);first|refine gT ?_|refine gF ?_|refine VIf.not ?_|refine gA ?_|refine gB ?_|refine VIf.dec (fun h=>?_) (fun h=>?_)|refine gC ?_|refine gD ?_|refine VIf.mk (fun h=>?_) (fun h=>?_)|refine gO ?_|refine gP ?_|refine VNat.mk _ rfl ?_|refine gV ?_|refine vret_pf rfl ?_|refine vret_take rfl rfl ?_|refine vcall_pf ho rfl rfl ?_|refine finds_pf ho (fun _=>?_)|refine gK ?_)
  all_goals (try (conv=>whnf))
  all_goals rfl
set_option maxRecDepth 100000 in
theorem own_can (t:Tm) (v:PV) (h:TmP t v) (i deep:Int) (hi:0 ≤ i∧i ≤ 1000000) (hd:0 ≤ deep∧deep ≤ 1000000):Pf C1 145 [v,iv i,iv deep] [bv (decide (t.kind=1) && decide (t.num=deep - 1 - i))]:=by
  obtain ⟨k0,nn0,s0,ls0,ts0,b0,z0,xs0,c0,y0,ys0,rfl,rfl,-⟩:=h.open
  refine run_intro Tryz.func145 rfl rfl rfl ?_
  repeat' ((conv=>whnf);first|refine gT ?_|refine gF ?_|refine VIf.not ?_|refine gA ?_|refine gB ?_|refine VIf.dec (fun h=>?_) (fun h=>?_)|refine gC ?_|refine gD ?_|refine VIf.mk (fun h=>?_) (fun h=>?_)|refine gO ?_|refine gP ?_|refine VNat.mk _ rfl ?_|refine gV ?_|refine vret_pf rfl ?_|refine vret_take rfl rfl ?_|refine gK ?_)
  all_goals (try (conv=>whnf))
  all_goals first
    |(simp_all [Tm.kind,Tm.num]; done)
    |(simp_all [Tm.kind,Tm.num]; exact decide_eq_decide.2 Iff.rfl)
set_option maxRecDepth 100000 in
theorem idxSt_can (hM:MkP nm p fx idx self M) (ts:List Tm) (b:Bool) (z:Nat) (xs:List PV) (hz:z=5∨xs=[]) (hxs:TmsP ts xs) (hbd:ts.length ≤ 1759218604441):Pf C1 127 [.sl b z xs,standsP M] [iv (idxT (stF nm) ts 0)]:=by
  have hlen:=hxs.len
  have hst:=fun t v h=>mstands_can hM t v h
  obtain ⟨k,a1,a2,a3,a4,a5,v1,v2,v3,v4,v5,cs,j1,j2,js,j3,j4,j5,j6,j7,j8,-⟩:=hM
  refine run_intro Tryz.func127 rfl rfl rfl ?_
  repeat' ((conv=>whnf);first|refine gT ?_|refine gF ?_|refine VIf.not ?_|refine gA ?_|refine gB ?_|refine VIf.dec (fun h=>?_) (fun h=>?_)|refine gC ?_|refine gD ?_|refine VIf.mk (fun h=>?_) (fun h=>?_)|refine gO ?_|refine gP ?_|refine VNat.mk _ rfl ?_|refine gV ?_|refine vret_pf rfl ?_|refine vret_take rfl rfl ?_|refine gK ?_)
  all_goals (try (conv=>whnf))
  refine loop_over (G:=Nat) (fun i=>[(8,iv i)]) (fun _=>_) (fun i=>i ≤ ts.length∧idxT (stF nm) (ts.drop i) i=idxT (stF nm) ts 0) (fun i=>ts.length - i) 0 ⟨by omega,rfl⟩ rfl rfl ?_
  rintro i ⟨hi,hall⟩
  dsimp only at hi hall ⊢
  repeat' ((conv=>whnf);first|refine gT ?_|refine gF ?_|refine VIf.not ?_|refine gA ?_|refine gB ?_|refine VIf.dec (fun h=>?_) (fun h=>?_)|refine gC ?_|refine gD ?_|refine VIf.mk (fun h=>?_) (fun h=>?_)|refine gO ?_|refine gP ?_|refine VNat.mk _ rfl ?_|refine gV ?_|refine vret_pf rfl ?_|refine vret_take rfl rfl ?_|refine gK ?_)
  all_goals (try (conv=>whnf))
  · have hi':i < ts.length:=by omega
    obtain ⟨tc,htc⟩:∃ tc,ts[i]? = some tc:=⟨_,List.getElem?_eq_getElem hi'⟩
    obtain ⟨v,hv,hl⟩:=hxs.at htc
    have hw:=hst tc v hl
    obtain ⟨k1,n1,s1',l1,t1,b1,z1,x1,c1,y1,ys1,rfl,rfl,hz1,hxs1,hlen1,hbd1,hy1,hys1,hlen21,hbd21,hsl1⟩:=hl.open
    rw [drop_at htc,idxT] at hall
    repeat' ((conv=>whnf);first|refine gT ?_|refine gF ?_|refine VIf.not ?_|refine gA ?_|refine gB ?_|refine VIf.dec (fun h=>?_) (fun h=>?_)|refine gC ?_|refine gD ?_|refine VIf.mk (fun h=>?_) (fun h=>?_)|refine gO ?_|refine gP ?_|refine VNat.mk _ rfl ?_|refine gV ?_|refine vret_pf rfl ?_|refine vret_take rfl rfl ?_|refine VIdx.mk _ hv ?_|refine VOk.mk (szOk_of rfl hz) ?_|refine vcall_pf hw rfl rfl ?_|refine gK ?_)
    all_goals (try (conv=>whnf))
    · rw [if_pos (by simpa [stF] using h)] at hall
      rw [← hall]
    · rw [if_neg (by simpa [stF] using h)] at hall
      exact VAgain.mk _ rfl _ (gc_take rfl rfl rfl) ⟨i + 1,⟨hi',hall⟩,by omega,rfl⟩
  · rw [List.drop_of_length_le (by omega),idxT] at hall
    rw [← hall]
set_option maxRecDepth 100000 in
theorem anySt_can (hM:MkP nm p fx idx self M) (ts:List Tm) (b:Bool) (z:Nat) (xs:List PV) (hz:z=5∨xs=[]) (hxs:TmsP ts xs) (hbd:ts.length ≤ 1759218604441):Pf C1 80 [.sl b z xs,standsP M] [bv (ts.any (stF nm))]:=by
  have hi:=idxSt_can hM ts b z xs hz hxs hbd
  have e:=idxT_any (stF nm) ts 0
  obtain ⟨k,a1,a2,a3,a4,a5,v1,v2,v3,v4,v5,cs,j1,j2,js,j3,j4,j5,j6,j7,j8,-⟩:=hM
  refine run_intro Tryz.func80 rfl rfl rfl ?_
  repeat' ((conv=>whnf);first|refine gT ?_|refine gF ?_|refine VIf.not ?_|refine gA ?_|refine gB ?_|refine VIf.dec (fun h=>?_) (fun h=>?_)|refine gC ?_|refine gD ?_|refine VIf.mk (fun h=>?_) (fun h=>?_)|refine gO ?_|refine gP ?_|refine VNat.mk _ rfl ?_|refine gV ?_|refine vret_pf rfl ?_|refine vret_take rfl rfl ?_|refine vcall_pf hi rfl rfl ?_|refine gK ?_)
  all_goals (try (conv=>whnf))
  rw [← e]
/-- are these the parameters' variables? -/
def ownsF (deep:Int):List Tm→Int→Bool
  |[],_=>true
  |t :: r,i=>(decide (t.kind=1) && decide (t.num=deep - 1 - i)) && ownsF deep r (i + 1)
/-- what a term ends with -/
def endF (nm:List UInt8) (self:Tm) (fx idx deep:Int) (t:Tm):List Tm × Bool :=
  if (eqTm (spF t).1 self && (decide (((argsF t).length:Int)=fx + idx) && ownsF deep ((argsF t).take fx.toNat) 0))=true then ((argsF t).drop fx.toNat,!((argsF t).drop fx.toNat).any (stF nm)) else ([],false)
theorem endF_bad {nm:List UInt8} {self:Tm} {fx idx deep:Int} {t:Tm} (h:(eqTm (spF t).1 self && (decide (((argsF t).length:Int)=fx + idx) && ownsF deep ((argsF t).take fx.toNat) 0))=false):endF nm self fx idx deep t=([],false):=by
  unfold endF
  rw [if_neg (by rw [h]; exact Bool.false_ne_true)]
theorem encTv_opn (l:List Tm):∃ b z,encTv l = .sl b z (l.map encT)∧(z=5∨l.map encT=[]):=by
  cases l with
  |nil=>exact ⟨_,_,rfl,.inr rfl⟩
  |cons d r=>exact ⟨_,_,encTv_pos (by simp),.inl rfl⟩
set_option maxHeartbeats 2000000 in
set_option maxRecDepth 100000 in
theorem end_can (hM:MkP nm p fx idx self M) (hfx:0 ≤ fx∧fx ≤ 16) (hidx:0 ≤ idx∧idx ≤ 16) (deep:Int) (hd:0 ≤ deep∧deep ≤ 1000000) (t:Tm) (v:PV) (h:TmP t v) (hw:∀ a ∈ argsF t,TmW a) (hh:TmW (spF t).1) (hl:(spF t).2.length ≤ 2000) :
    ∃ b z xs,(z=5∨xs=[])∧TmsP (endF nm self fx idx deep t).1 xs∧Pf C1 101 [M,v,iv deep] [.sl b z xs,bv (endF nm self fx idx deep t).2]:=by
  suffices key:Finds C1 101 [M,v,iv deep] [] fun r _=>∃ b z xs,(z=5∨xs=[])∧TmsP (endF nm self fx idx deep t).1 xs∧r = .ret [.sl b z xs,bv (endF nm self fx idx deep t).2] by
    obtain ⟨r,st',⟨b,z,xs,h1,h2,rfl⟩,N,hN⟩:=key
    exact ⟨b,z,xs,h1,h2,_,st',rfl,N,hN⟩
  have hs:=Spine_can t v h hl
  have hlen:(argsF t).length=(spF t).2.length:=by simp [argsF]
  have hany:=fun l b z xs h1 h2 h3=>anySt_can hM l b z xs h1 h2 h3
  have hsame:=fun w hw=>Same_can (spF t).1 (encT (spF t).1) hh self w hw
  obtain ⟨k,a1,a2,a3,a4,a5,v1,v2,v3,v4,v5,cs,j1,j2,js,j3,j4,j5,j6,j7,j8,hself⟩:=hM
  have hsm:=hsame _ hself
  obtain ⟨k9,n9,s9,b9,z9,x9,c9,y9,ys9,he9⟩:=encT_open (spF t).1
  obtain ⟨bq,zq,hq,hzq⟩:=encTv_opn (argsF t)
  rw [he9,hq] at hs
  rw [he9] at hsm
  have hql:((argsF t).map encT).length=(argsF t).length:=by simp
  obtain ⟨f,rfl⟩:=Int.eq_ofNat_of_zero_le hfx.1
  have hbad:=fun e=>endF_bad (nm:=nm) (self:=self) (fx:=f) (idx:=idx) (deep:=deep) (t:=t) e
  have hgood:(eqTm (spF t).1 self && (decide (((argsF t).length:Int)=f + idx) && ownsF deep ((argsF t).take f) 0))=true→endF nm self f idx deep t=((argsF t).drop f,!((argsF t).drop f).any (stF nm)):=fun e=>by
    unfold endF
    rw [Int.toNat_natCast,if_pos e]
  rw [Int.toNat_natCast] at hbad
  generalize hA:argsF t=A at hs hlen hw hq hzq hql hbad hgood
  generalize hH:(spF t).1=H at hs hh hsm hbad hgood
  obtain ⟨k0,nn0,s0,ls0,ts0,b0,z0,xs0,c0,y0,ys0,rfl,rfl,-⟩:=h.open
  refine run_intro Tryz.func101 rfl rfl rfl ?_
  repeat' ((conv=>whnf);first|refine gT ?_|refine gF ?_|refine VIf.not ?_|refine gA ?_|refine gB ?_|refine VIf.dec (fun h=>?_) (fun h=>?_)|refine gC ?_|refine gD ?_|refine VIf.mk (fun h=>?_) (fun h=>?_)|refine gO ?_|refine gP ?_|refine VNat.mk _ rfl ?_|refine gV ?_|refine vret_pf rfl ?_|refine vret_take rfl rfl ?_|refine vcall_pf hs rfl rfl ?_|refine vcall_pf hsm rfl rfl ?_|refine finds_pf hsm (fun _=>?_)|refine VOk.mk (szOk_of rfl hzq) ?_|refine VNat.mk f rfl ?_|refine VOk.mk (show (Nat.ble f (A.map encT).length && Nat.ble 0 f)=true by simp; omega) ?_|refine gK ?_)
  all_goals (try (conv=>whnf))
  · have hf:f ≤ A.length:=by simp at *; omega
    have hlT:(List.drop 0 (List.take f (A.map encT))).length=f:=by simp; omega
    have hpre:ownsF deep (A.take f) 0=true→endF nm self f idx deep (.mk k0 nn0 s0 ls0 ts0)=(A.drop f,!(A.drop f).any (stF nm)):=fun e=>hgood (by simp_all)
    refine loop_over (G:=Nat) (fun i=>[(48,iv i)]) (fun _=>_) (fun i=>i ≤ f∧ownsF deep ((A.take f).drop i) i=ownsF deep (A.take f) 0) (fun i=>f - i) 0 ⟨by omega,rfl⟩ rfl rfl ?_
    rintro i ⟨hi,hall⟩
    dsimp only at hi hall ⊢
    repeat' ((conv=>whnf);first|refine gT ?_|refine gF ?_|refine VIf.not ?_|refine gA ?_|refine gB ?_|refine VIf.dec (fun h=>?_) (fun h=>?_)|refine gC ?_|refine gD ?_|refine VIf.mk (fun h=>?_) (fun h=>?_)|refine gO ?_|refine gP ?_|refine VNat.mk _ rfl ?_|refine gV ?_|refine vret_pf rfl ?_|refine vret_take rfl rfl ?_|refine gK ?_)
    all_goals (try (conv=>whnf))
    · have hi':i < f:=by omega
      obtain ⟨tc,htc⟩:∃ tc,A[i]? = some tc:=⟨_,List.getElem?_eq_getElem (by omega)⟩
      have htc1:(A.take f)[i]? = some tc:=by rw [List.getElem?_take,if_pos hi',htc]
      have hv:(List.drop 0 (List.take f (A.map encT)))[i]? = some (encT tc):=by rw [List.drop_zero,← List.map_take,List.getElem?_map,htc1]; rfl
      have ho:=own_can tc (encT tc) (hw _ (List.mem_of_getElem? htc)) i deep ⟨by omega,by omega⟩ hd
      obtain ⟨k3,n3,s3,b3,z3,x3,c3,y3,ys3,he3⟩:=encT_open tc
      rw [he3] at hv ho
      rw [drop_at htc1,ownsF] at hall
      have hz5:zq=5∨List.drop 0 (List.take f (A.map encT))=[]:=by
        rcases hzq with e|e
        · exact .inl e
        · rw [e]; exact .inr (by simp)
      repeat' ((conv=>whnf);first|refine gT ?_|refine gF ?_|refine VIf.not ?_|refine gA ?_|refine gB ?_|refine VIf.dec (fun h=>?_) (fun h=>?_)|refine gC ?_|refine gD ?_|refine VIf.mk (fun h=>?_) (fun h=>?_)|refine gO ?_|refine gP ?_|refine VNat.mk _ rfl ?_|refine gV ?_|refine vret_pf rfl ?_|refine vret_take rfl rfl ?_|refine VIdx.mk _ hv ?_|refine VOk.mk (szOk_of rfl hz5) ?_|refine vcall_pf ho rfl rfl ?_|refine gK ?_)
      all_goals (try (conv=>whnf))
      · refine VAgain.mk _ rfl _ (gc_take rfl rfl rfl) ⟨i + 1,⟨hi',?_⟩,by omega,rfl⟩
        rw [← hall]
        simp_all
      · have e0:ownsF deep (A.take f) 0=false:=by
          rw [← hall]
          simp_all
        rw [hbad (by rw [e0]; simp)]
        exact ⟨_,_,_,.inr rfl,by simp only [TmsP],rfl⟩
    · have e0:ownsF deep (A.take f) 0=true:=by
        rw [← hall,List.drop_of_length_le (by simp; omega)]
        rfl
      have hpost:=hpre e0
      have hxsd:TmsP (A.drop f) (((A.map encT).take (A.map encT).length).drop f):=by
        rw [List.take_length,← List.map_drop]
        exact tmsP_enc fun a ha=>hw a (List.mem_of_mem_drop ha)
      have hzd:zq=5∨((A.map encT).take (A.map encT).length).drop f=[]:=by
        rcases hzq with e|e
        · exact .inl e
        · rw [e]; exact .inr (by simp)
      have hc:=hany (A.drop f) (bq && Nat.beq (A.map encT).length (A.map encT).length) zq _ hzd hxsd (by simp; omega)
      repeat' ((conv=>whnf);first|refine gT ?_|refine gF ?_|refine VIf.not ?_|refine gA ?_|refine gB ?_|refine VIf.dec (fun h=>?_) (fun h=>?_)|refine gC ?_|refine gD ?_|refine VIf.mk (fun h=>?_) (fun h=>?_)|refine gO ?_|refine gP ?_|refine VNat.mk _ rfl ?_|refine gV ?_|refine vret_pf rfl ?_|refine vret_take rfl rfl ?_|refine VOk.mk (szOk_of rfl hzq) ?_|refine VNat.mk f rfl ?_|refine VOk.mk (show (Nat.ble (A.map encT).length (A.map encT).length && Nat.ble f (A.map encT).length)=true by simp; omega) ?_|refine vcall_pf hc rfl rfl ?_|refine gK ?_)
      all_goals (try (conv=>whnf))
      rw [hpost]
      exact ⟨_,_,_,hzd,hxsd,rfl⟩
  all_goals
    rw [hbad (by simp_all)]
    exact ⟨_,_,_,.inr rfl,by simp only [TmsP],rfl⟩
end
end Go.Proofs.YtehhihdahalfeaaGreatDoor
namespace Go.Proofs.YtehhihdahalfeaaGreatDoor
open Go Go.Am Go.Gw
theorem spF_w (t:Tm):TmW t→(∀ a ∈ (spF t).2,TmW a)∧TmW (spF t).1:=by
  induction t using Tm.ind with
  |_ k n s ls ts ih =>
  intro h
  unfold spF
  split
  · rename_i f a
    split
    · have h1:=(TmW.args h).1 f (by simp)
      obtain ⟨h2,h3⟩:=ih f (by simp) h1
      refine ⟨fun b hb=>?_,h3⟩
      rcases List.mem_cons.1 hb with rfl|hb
      · exact (TmW.args h).1 _ (by simp)
      · exact h2 b hb
    · exact ⟨fun b hb=>by simp at hb,h⟩
  · exact ⟨fun b hb=>by simp at hb,h⟩
theorem spF_dep (t:Tm):(spF t).2.length ≤ depT t:=by
  induction t using Tm.ind with
  |_ k n s ls ts ih =>
  unfold spF
  split
  · rename_i f a
    split
    · have:=ih f (by simp)
      simp only [List.length_cons,depT,depTs]
      omega
    · simp
  · simp
/-- how many arms a field has that is recursive: behind so many binders -/
def armsL (nm:List UInt8) (self:Tm) (fx idx deep:Int):Tm→Int→Int × Bool
  | .mk k n s ls ts,c =>
    let fin:=if (endF nm self fx idx (deep + c) (.mk k n s ls ts)).2=true then (c,true) else (0,false)
    match ts with
    |[a,b]=>if k=6 then (if stF nm a=true then (0,false) else armsL nm self fx idx deep b (c + 1)) else fin
    |_=>fin
def armsF (nm:List UInt8) (self:Tm) (fx idx deep:Int) (t:Tm):Int × Bool:=if stF nm t=true then armsL nm self fx idx deep t 0 else (-1,true)
theorem armsL_pi {nm:List UInt8} {self:Tm} {fx idx deep n c:Int} {s:List UInt8} {ls:List Lv} {a b:Tm}:armsL nm self fx idx deep (.mk 6 n s ls [a,b]) c=if stF nm a=true then (0,false) else armsL nm self fx idx deep b (c + 1):=by
  rw [armsL]
  simp
theorem armsL_end {nm:List UInt8} {self:Tm} {fx idx deep k n c:Int} {s:List UInt8} {ls:List Lv} {ts:List Tm} (h:¬ k=6):armsL nm self fx idx deep (.mk k n s ls ts) c=if (endF nm self fx idx (deep + c) (.mk k n s ls ts)).2=true then (c,true) else (0,false):=by
  match ts with
  |[]=>rw [armsL]; simp
  |[a]=>rw [armsL]; simp
  |[a,b]=>rw [armsL]; simp [h]
  |a :: b :: c :: r=>rw [armsL]; simp
section
variable {nm:List UInt8} {p fx idx:Int} {self:Tm} {M:PV}
set_option maxHeartbeats 2000000 in
set_option maxRecDepth 100000 in
theorem arms_can (hM:MkP nm p fx idx self M) (hfx:0 ≤ fx∧fx ≤ 16) (hidx:0 ≤ idx∧idx ≤ 16) (deep:Int) (hd:0 ≤ deep∧deep ≤ 1000) (t:Tm) (v:PV) (hT:TmP t v) (hany:anyT t=true) :
    Pf C1 63 [M,v,iv deep] [iv (armsF nm self fx idx deep t).1,bv (armsF nm self fx idx deep t).2]:=by
  have hst:=fun t v h=>mstands_can hM t v h
  have hen:=fun deep hd t v h hw hh hl=>end_can hM hfx hidx deep hd t v h hw hh hl
  have hs0:=hst t v hT
  have hdp:=any_dep hany
  obtain ⟨k,a1,a2,a3,a4,a5,v1,v2,v3,v4,v5,cs,j1,j2,js,j3,j4,j5,j6,j7,j8,-⟩:=hM
  obtain ⟨k0,nn0,s0,ls0,ts0,b0,z0,xs0,c0,y0,ys0,rfl,rfl,-⟩   := hT.open
  refine run_intro Tryz.func63 rfl rfl rfl ?_
  repeat' ((conv=>whnf);first|refine gT ?_|refine gF ?_|refine VIf.not ?_|refine gA ?_|refine gB ?_|refine VIf.dec (fun h=>?_) (fun h=>?_)|refine gC ?_|refine gD ?_|refine VIf.mk (fun h=>?_) (fun h=>?_)|refine gO ?_|refine gP ?_|refine VNat.mk _ rfl ?_|refine gV ?_|refine vret_pf rfl ?_|refine vret_take rfl rfl ?_|refine vcall_pf hs0 rfl rfl ?_|refine gK ?_)
  all_goals (try (conv=>whnf))
  · have hsT:stF nm (.mk k0 nn0 s0 ls0 ts0)=true:=by simp_all [stF]
    have hF:armsF nm self fx idx deep (.mk k0 nn0 s0 ls0 ts0)=armsL nm self fx idx deep (.mk k0 nn0 s0 ls0 ts0) 0:=by rw [armsF,if_pos hsT]
    refine loop_over (G:=Tm × PV × Nat) (fun g=>[(8,iv g.2.2)]) (fun g=>[.box 25 g.2.1.cells]) (fun g=>TmP g.1 g.2.1∧(∃ kk,allT g.1 4 kk=true)∧g.2.2 + depT g.1 ≤ 2000∧armsL nm self fx idx deep g.1 g.2.2=armsL nm self fx idx deep (.mk k0 nn0 s0 ls0 ts0) 0) (fun g=>sizT g.1) (.mk k0 nn0 s0 ls0 ts0,.ag [iv k0,iv nn0,sv s0,.sl b0 z0 xs0,.sl c0 y0 ys0],0) ⟨hT,⟨_,(any_parts hany).2⟩,by simpa using hdp,rfl⟩ rfl rfl ?_
    rintro ⟨u,w,q⟩ ⟨hu,⟨kk,hall⟩,hdq,heq⟩
    dsimp only at hu hall hdq heq ⊢
    have hw:=spF_w u hu.w
    have hlu:=spF_dep u
    obtain ⟨be,ze,xe,-,-,he⟩:=hen (deep + q) ⟨by omega,by omega⟩ u w hu (fun a ha=>hw.1 a (by simpa [argsF] using ha)) hw.2 (by omega)
    obtain ⟨k1,nn,s,ls,ts,b,z,xs,c,y,ys,rfl,rfl,hz,hxs,hlen,hbd1,hy,hys,hlen2,hbd2,hsl⟩:=hu.open
    simp only [PV.cells]
    repeat' ((conv=>whnf);first|refine gT ?_|refine gF ?_|refine VIf.not ?_|refine gA ?_|refine gB ?_|refine VIf.dec (fun h=>?_) (fun h=>?_)|refine gC ?_|refine gD ?_|refine VIf.mk (fun h=>?_) (fun h=>?_)|refine gO ?_|refine gP ?_|refine VNat.mk _ rfl ?_|refine gV ?_|refine vret_pf rfl ?_|refine vret_take rfl rfl ?_|refine vcall_pf he rfl rfl ?_|refine gK ?_)
    all_goals (try (conv=>whnf))
    · obtain ⟨a5,b5,rfl,hb5⟩:∃ a b,ts=[a,b]∧∃ kk,allT b 4 kk=true:=by
        obtain ⟨hk17,hlenk,hnode,-,hats⟩:=allT_parts hall
        rw [shArgs,if_pos (by omega)] at hlenk
        match ts,hlenk,hats with
        |[a,b],_,hats=>exact ⟨a,b,rfl,_,allTs_at hats (by rfl:[a,b][1]? = some b)⟩
        |[],h,_=>simp at h
        |[_],h,_=>simp at h
        |_ :: _ :: _ :: _,h,_=>simp at h; omega
      obtain ⟨va,hva,hla⟩:=hys.at (by rfl:[a5,b5][0]? = some a5)
      obtain ⟨vb,hvb,hlb⟩:=hys.at (by rfl:[a5,b5][1]? = some b5)
      have hsa:=hst a5 va hla
      obtain ⟨k6,n6,s6,l6,t6,b6,z6,x6,c6,y6,ys6,rfl,rfl,-⟩:=hla.open
      obtain ⟨k2,n2,s2,l2,t2,b2,z2,x2,c2,y2,ys2,rfl,rfl,-⟩:=hlb.open
      obtain rfl:k1=6:=by omega
      rw [armsL_pi] at heq
      simp only [depT,depTs] at hdq
      repeat' ((conv=>whnf);first|refine gT ?_|refine gF ?_|refine VIf.not ?_|refine gA ?_|refine gB ?_|refine VIf.dec (fun h=>?_) (fun h=>?_)|refine gC ?_|refine gD ?_|refine VIf.mk (fun h=>?_) (fun h=>?_)|refine gO ?_|refine gP ?_|refine VNat.mk _ rfl ?_|refine gV ?_|refine vret_pf rfl ?_|refine vret_take rfl rfl ?_|refine VIdx.mk _ hva ?_|refine VIdx.mk _ hvb ?_|refine VOk.mk (szOk_of rfl hy) ?_|refine vcall_pf hsa rfl rfl ?_|refine gK ?_)
      all_goals (try (conv=>whnf))
      · rw [hF,← heq,if_pos (by simpa [stF] using (by assumption:nm ∈ ConstsF _))]
      · rw [if_neg (by simpa [stF] using (by assumption:¬ nm ∈ ConstsF _))] at heq
        exact VAgain.mk _ rfl _ (gc_take rfl rfl rfl) ⟨(.mk k2 n2 s2 l2 t2,.ag [iv k2,iv n2,sv s2,.sl b2 z2 x2,.sl c2 y2 ys2],q + 1),⟨hlb,hb5,by simp only [depT]; omega,heq⟩,by simp only [sizT,sizTs]; omega,rfl⟩
    all_goals rw [armsL_end (by assumption)] at heq
    · rw [hF,← heq,if_pos (by simp_all)]
    · rw [hF,← heq,if_neg (by simp_all)]
  · rw [armsF,if_neg (by simp_all [stF])]
end
end Go.Proofs.YtehhihdahalfeaaGreatDoor

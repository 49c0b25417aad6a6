/-
  Terms made of others: application, sorts, levels in the parameters' places. No statement of the seat.
-/
import Derived.Test.YtljnahbgfmflaaaGreatDoorZKd
import Derived.Test.YtljnahbgfmflaaaGreatDoorZLj
set_option linter.unusedVariables false
set_option maxHeartbeats 2000000
set_option maxRecDepth 100000
set_option linter.unusedSimpArgs false
set_option linter.unnecessarySimpa false
namespace Go.Proofs.YtljnahbgfmflaaaGreatDoor
open Go Go.Am Go.Gw
def RT (f:FuncId) (args:List PV) (t:Tm):Prop:=∃ w,TmP t w∧Pf C1 f args [w]
theorem jlQ {k:Int} {f a:Tm} {v w:PV} (h:TmP f v) (h':TmP a w) (b:Bool):TmP (.mk k 0 [] [] [f,a]) (.ag [iv k,iv 0,sv [],.sl true 0 [],.sl b 5 [v,w]]) :=
 ⟨true,0,[],b,5,[v,w],rfl,.inr rfl,rfl,by simp,.inl rfl,⟨v,[w],rfl,h,w,[],rfl,h',rfl⟩,by simp,by simp,by unfold i64; omega⟩
def appV:PV→List Tm→PV
 |w,[]=>w
 |w,a :: r=>appV (.ag [iv 4,iv 0,sv [],.sl true 0 [],.sl true 5 [w,encT a]]) r
theorem j6n:∀ (ts:List Tm) (k n:Int) (s:List UInt8) (b:Bool) (z:Nat) (xs:List PV) (c:Bool) (y:Nat) (ys:List PV),∃ k' n' s' b' z' xs' c' y' ys',appV (.ag [iv k,iv n,sv s,.sl b z xs,.sl c y ys]) ts = .ag [iv k',iv n',sv s',.sl b' z' xs',.sl c' y' ys']
 |[],_,_,_,_,_,_,_,_,_=>⟨_,_,_,_,_,_,_,_,_,rfl⟩
 |a :: r,k,n,s,b,z,xs,c,y,ys=>by rw [appV]; exact j6n r _ _ _ _ _ _ _ _ _
theorem jeo:∀ (ts:List Tm) (w:PV) (a:Tm),appV w (ts ++ [a]) = .ag [iv 4,iv 0,sv [],.sl true 0 [],.sl true 5 [appV w ts,encT a]]
 |[],w,a=>rfl
 |b :: r,w,a=>by rw [List.cons_append,appV,jeo r,appV]
theorem jeW:∀ {ts:List Tm} {t:Tm} {w:PV},TmP t w→(∀ a ∈ ts,TmW a)→TmP (appF t ts) (appV w ts)
 |[],t,w,h,_=>h
 |a :: r,t,w,h,hw=>by
  rw [appF,appV]
  exact jeW (jlQ h (hw a (by simp)) true) fun x hx=>hw x (by simp [hx])
theorem j7a (t:Tm) (v:PV) (h:TmP t v) (ts:List Tm) (b:Bool) (z:Nat) (xs:List PV) (hz:z=5∨xs=[]) (hxs:TmsP ts xs) (hbd:ts.length ≤ 1000000):Pf C1 65 [v,.sl b z xs] [appV (encT t) ts]:=by
 have hf:=j2B t v h
 have hlen:=hxs.len
 obtain ⟨k2,n2,s2,b2,z2,x2,c2,y2,ys2,he⟩:=j0a t
 rw [he] at hf ⊢
 obtain ⟨k0,n0,s0,ls0,ts0,b0,z0,xs0,c0,y0,ys0,rfl,rfl,-⟩:=h.open
 refine j00 Tryz.func65 rfl rfl rfl ?_
 repeat' ((conv=>whnf);first|apply gO|refine j01 hf rfl rfl ?_)
 all_goals (try (conv=>whnf))
 refine j09 (G:=Nat) (fun i=>[(12,iv i)]) (fun i=>[_,_,.box 25 (appV (.ag [iv k2,iv n2,sv s2,.sl b2 z2 x2,.sl c2 y2 ys2]) (ts.take i)).cells]) (fun i=>i ≤ ts.length) (fun i=>ts.length - i) 0 (by omega) rfl rfl ?_
 intro i hi
 obtain ⟨k3,n3,s3,b3,z3,x3,c3,y3,ys3,he3⟩:=j6n (ts.take i) k2 n2 s2 b2 z2 x2 c2 y2 ys2
 rw [he3]
 simp only [PV.cells]
 repeat' ((conv=>whnf);first|apply gE<;>intro h|apply gO|apply gQ|refine j04 rfl ?_)
 all_goals (try (conv=>whnf))
 ·have hi':i < ts.length:=by omega
  obtain ⟨tc,htc⟩:∃ tc,ts[i]? = some tc:=⟨_,List.getElem?_eq_getElem hi'⟩
  obtain ⟨v,hv,hl⟩:=hxs.at htc
  have hfc:=j2B tc v hl
  have e:=jeo (ts.take i) (.ag [iv k2,iv n2,sv s2,.sl b2 z2 x2,.sl c2 y2 ys2]) tc
  rw [← take_snoc' htc,he3] at e
  obtain ⟨k4,n4,s4,b4,z4,x4,c4,y4,ys4,he4⟩:=j0a tc
  rw [he4] at hfc e
  obtain ⟨k1,n1,s1,l1,t1,b1,z1,x1,c1,y1,ys1,rfl,rfl,-⟩:=hl.open
  repeat' ((conv=>whnf);first|apply gO|apply gP|refine gV ?_|refine VIdx.mk _ hv ?_|refine VOk.mk (j07 rfl hz) ?_|refine j05 hfc (fun _=>?_)|apply gK)
  all_goals (try (conv=>whnf))
  exact VAgain.mk _ rfl _ (j0h rfl rfl rfl) ⟨i + 1,hi',by omega,congrArg (fun t=>(⟨_,[_,_,.box _ t]⟩:AS)) (congrArg PV.cells e).symm⟩
 ·rw [List.take_of_length_le (by omega)] at he3
  rw [he3]
  rfl
def jcE (l:Lv):Tm:=.mk 2 0 [] [l] []
def jiV (l:Lv):PV:=.ag [iv 2,iv 0,sv [],.sl true 3 [encL l],.sl true 0 []]
theorem jcg {l:Lv} {v:PV} (h:LvP l v):TmP (jcE l) (jiV l) :=
 ⟨true,3,[encL l],true,0,[],rfl,.inl rfl,⟨encL l,[],rfl,jc0 l v h,rfl⟩,by simp,.inr rfl,rfl,by simp,by simp,by unfold i64; omega⟩
theorem jcW (l:Lv) (v:PV) (h:LvP l v):Pf C1 107 [v] [jiV l]:=by
 have hx:=j6E l v h true 3 rfl
 unfold jiV
 obtain ⟨k2,n2,b2,z2,x2,he2⟩:=j0y l
 rw [he2] at hx ⊢
 obtain ⟨k1,n1,l1,b1,z1,x1,rfl,rfl,hz1,hxs1,hlen1,hbd1⟩:=h.open
 refine j00 Tryz.func107 rfl rfl rfl ?_
 repeat' ((conv=>whnf);first|apply gO|refine j04 rfl ?_|refine j01 hx rfl rfl ?_)
 all_goals (try (conv=>whnf))
 all_goals rfl
def j1k:List Lv→List Lv→Option (List Lv)
 |[],_=>some []
 |l :: r,bys=>match Go.Gw.InstF l bys with
  |none=>none
  |some x=>(j1k r bys).map (x :: ·)
mutual
def lvT:Tm→List Lv→Option Tm
 | .mk k n s ls ts,bys=>match j1k ls bys with
  |none=>none
  |some ls'=>(lvTs ts bys).map fun ts'=>.mk k n s ls' ts'
def lvTs:List Tm→List Lv→Option (List Tm)
 |[],_=>some []
 |t :: r,bys=>match lvT t bys with
  |none=>none
  |some x=>(lvTs r bys).map (x :: ·)
end
theorem jbe {ls bys:List Lv} {i:Nat} {l:Lv} (h:ls[i]? = some l):j1k (ls.drop i) bys=match Go.Gw.InstF l bys with
  |none=>none
  |some x=>(j1k (ls.drop (i + 1)) bys).map (x :: ·):=by rw [drop_at h,j1k]
theorem jg9 {ts:List Tm} {bys:List Lv} {i:Nat} {t:Tm} (h:ts[i]? = some t):lvTs (ts.drop i) bys=match lvT t bys with
  |none=>none
  |some x=>(lvTs (ts.drop (i + 1)) bys).map (x :: ·):=by rw [drop_at h,lvTs]
theorem jiz (bys:List Lv) (bb:Bool) (bz:Nat) (bxs:List PV) (hbz:bz=3∨bxs=[]) (hbxs:LvsP bys bxs) (hbb:bys.length ≤ 1000000) (t:Tm):∀ v,TmP t v→∀ p kk:Int,allT t p kk=true→Pf C1 262 [v,.sl bb bz bxs] (putV (lvT t bys)):=by
 induction t using Tm.ind with
 |_ k nn s ls ts ih =>
 intro v h p kk hall
 obtain ⟨hk17,hlenk,hnode,hrl,hats⟩:=j0r hall
 obtain ⟨ha1,ha2⟩:=j4S hall
 obtain ⟨_,_,_,_,_,b,z,xs,c,y,ys,⟨rfl,rfl,rfl,rfl,rfl⟩,rfl,hz,hxs,hlen,hbd,hy,hys,hlen2,hbd2,hsl⟩:=h.open
 have hI:=jlO bys bb bz bxs hbz hbxs hbb
 by_cases h4:4 ≤ k
 ·obtain ⟨rfl,rfl,rfl⟩:=j3M hnode h4
  have hxs0:xs=[]:=List.eq_nil_of_length_eq_zero (by simpa using hlen)
  subst hxs0
  have e:lvT (.mk k 0 [] [] ts) bys=(lvTs ts bys).map fun ts'=>.mk k 0 [] [] ts':=by rw [lvT,j1k]
  rw [e]
  refine j00 Tryz.func262 rfl rfl rfl ?_
  repeat' ((conv=>whnf);first|refine VOk.mk rfl ?_)
  all_goals (try (conv=>whnf))
  refine j09 (G:=Unit) (fun _=>[]) (fun _=>_) (fun _=>True) (fun _=>0) () trivial rfl rfl ?_
  rintro _ _
  repeat' ((conv=>whnf);first|refine VIf.ff rfl ?_)
  all_goals (try (conv=>whnf))
  refine j09 (G:=List Tm) (fun g=>[(48,iv g.length)]) (fun g=>match g with
    |[]=>[.box 25 [iv k,iv 0,sv [],.sl b z [],.sl c y ys],.box 25 zTm,.box 25 [iv k,iv 0,sv [],.sl true 0 [],.sl true 0 []]]
    |d :: r=>[.box 25 [iv k,iv 0,sv [],.sl b z [],.sl c y ys],.box 25 zTm,.box 25 [iv k,iv 0,sv [],.sl true 0 [],.ms 5 (r.length + 1)],.dead,.dead,.row false 25 5 ((d :: r).map encT)]) (fun g=>g.length ≤ ts.length∧(lvTs (ts.drop g.length) bys).map (g ++ ·)=lvTs ts bys) (fun g=>ts.length - g.length) [] ⟨by simp,by simp⟩ rfl rfl ?_
  rintro don ⟨hi,hinv⟩
  have hround:∀ (hi':don.length < ts.length),∃ tc,ts[don.length]? = some tc∧∃ v,ys[don.length]? = some v∧TmP tc v∧Pf C1 262 [v,.sl bb bz bxs] (putV (lvT tc bys)):=fun hi'=>by
   obtain ⟨tc,htc⟩:∃ tc,ts[don.length]? = some tc:=⟨_,List.getElem?_eq_getElem hi'⟩
   obtain ⟨v,hv,hl⟩:=hys.at htc
   exact ⟨tc,htc,v,hv,hl,ih _ (List.mem_of_getElem? htc) _ hl _ _ (j2t hats htc)⟩
  have hfin:¬ don.length < ts.length→lvTs ts bys=some don:=fun hn=>by
   rw [List.drop_of_length_le (by omega),lvTs] at hinv
   simpa using hinv.symm
  have hno:∀ {tc},ts[don.length]? = some tc→lvT tc bys=none→lvTs ts bys=none:=fun htc h0=>by
   rw [jg9 htc,h0] at hinv
   simpa using hinv.symm
  have hyes:∀ {tc x},ts[don.length]? = some tc→lvT tc bys=some x→(lvTs (ts.drop (don ++ [x]).length) bys).map ((don ++ [x]) ++ ·)=lvTs ts bys:=fun htc h0=>by
   rw [jg9 htc,h0] at hinv
   rw [← hinv]
   simp [Function.comp_def]
  cases don with
  |nil =>
   repeat' ((conv=>whnf);first|apply gE<;>intro h|apply gO|apply gQ|refine j04 rfl ?_)
   all_goals (try (conv=>whnf))
   ·obtain ⟨tc,htc,v,hv,hl,hr⟩:=hround (by simp only [List.length_nil] at *; omega)
    obtain ⟨k1,n1,s1,l1,t1,b1,z1,x1,c1,y1,ys1,rfl,rfl,-⟩:=hl.open
    cases h0:lvT (.mk k1 n1 s1 l1 t1) bys with
    |none =>
     rw [h0] at hr
     repeat' ((conv=>whnf);first|apply gT|apply gO|refine j04 rfl ?_|refine VIdx.mk _ hv ?_|refine VOk.mk (j07 rfl hy) ?_|refine j01 hr rfl rfl ?_)
     all_goals (try (conv=>whnf))
     rw [hno htc h0]
     rfl
    |some x =>
     rw [h0] at hr
     have hy1:=hyes htc h0
     have e:[x].map encT=[encT x]:=rfl
     obtain ⟨k2,n2,s2,b2,z2,x2,c2,y2,ys2,he⟩:=j0a x
     simp only [putV] at hr
     rw [he] at hr e
     repeat' ((conv=>whnf);first|apply gF|apply gO|refine gV ?_|refine VIdx.mk _ hv ?_|refine VOk.mk (j07 rfl hy) ?_|refine j01 hr rfl rfl ?_)
     all_goals (try (conv=>whnf))
     exact VAgain.mk _ rfl _ (j1b (.cons (j06 rfl rfl) (.cons (j06 rfl rfl) (.cons (j06 rfl rfl) (.cons (j06 rfl rfl) (.cons (j06 rfl rfl) (.cons (j0e rfl) .nil)))))) (.cons (j06 rfl rfl) (.cons (j06 rfl rfl) (.cons (j06 rfl rfl) (.cons j0o (.cons j0o (.cons (j0e rfl) .nil)))))) rfl rfl rfl rfl rfl) ⟨[x],⟨by simp only [List.length_cons,List.length_nil] at *; omega,hy1⟩,by simp only [List.length_cons,List.length_nil] at *; omega,congrArg (fun t=>(⟨_,[.box _ [iv k,iv 0,sv [],.sl b z [],.sl c y ys],.box _ zTm,.box _ [iv k,iv 0,sv [],.sl true 0 [],.ms 5 1],.dead,.dead,.row false _ 5 t]⟩:AS)) e.symm⟩
   ·rw [hfin (by simp only [List.length_nil] at *; omega)]
    rfl
  |cons d r =>
   have hln:((d :: r).map encT).length=r.length + 1:=by simp
   have hsh:j0T k ≤ 3:=by unfold j0T; (repeat' split) <;> omega
   have hbl:r.length + 1 ≤ 3:=by simp only [List.length_cons] at hi; omega
   repeat' ((conv=>whnf);first|apply gE<;>intro h|apply gO|apply gQ)
   all_goals (try (conv=>whnf))
   ·obtain ⟨tc,htc,v,hv,hl,hr⟩:=hround (by simp only [List.length_cons] at *; omega)
    obtain ⟨k1,n1,s1,l1,t1,b1,z1,x1,c1,y1,ys1,rfl,rfl,-⟩:=hl.open
    cases h0:lvT (.mk k1 n1 s1 l1 t1) bys with
    |none =>
     rw [h0] at hr
     repeat' ((conv=>whnf);first|apply gT|apply gO|refine j04 rfl ?_|refine VIdx.mk _ hv ?_|refine VOk.mk (j07 rfl hy) ?_|refine j01 hr rfl rfl ?_)
     all_goals (try (conv=>whnf))
     rw [hno htc h0]
     rfl
    |some x =>
     rw [h0] at hr
     have hy1:=hyes htc h0
     have e:(d :: (r ++ [x])).map encT=(d :: r).map encT ++ [encT x]:=by simp
     have hp8:((d :: r).map encT ++ [encT x]).all (pur 8)=true:=e ▸ j0I _ 6
     obtain ⟨k2,n2,s2,b2,z2,x2,c2,y2,ys2,he⟩:=j0a x
     simp only [putV] at hr
     rw [he] at hr e hp8
     repeat' ((conv=>whnf);first|apply gF|apply gO|refine gV ?_|refine VIdx.mk _ hv ?_|refine VOk.mk (j07 rfl hy) ?_|refine j01 hr rfl rfl ?_|refine VOk.mk (j1i (w:=80) (r:=140737488355328) hln rfl rfl rfl rfl (by simp only [List.length_cons,List.length_nil]; omega) (by simp only [List.length_cons,List.length_nil]; omega)) ?_)
     all_goals (try (conv=>whnf))
     have el:(((d :: (r ++ [x])).length:Nat):Int)=((d :: r).length:Nat) + 1:=by simp
     have el2:(r ++ [x]).length + 1=r.length + 1 + 1:=by simp
     refine VAgain.mk _ rfl _ (j1b (.cons (j06 rfl rfl) (.cons (j06 rfl rfl) (.cons (j06 rfl rfl) (.cons j0o (.cons j0o (.cons (j0e hp8) (.cons (j06 rfl rfl) (.cons (j06 rfl rfl) .nil)))))))) (.cons (j06 rfl rfl) (.cons (j06 rfl rfl) (.cons (j06 rfl rfl) (.cons j0o (.cons j0o (.cons (j0e hp8) .nil)))))) rfl rfl rfl rfl rfl) ⟨d :: (r ++ [x]),⟨by simp only [List.length_cons,List.length_append,List.length_nil] at *; omega,hy1⟩,by simp only [List.length_cons,List.length_append,List.length_nil] at *; omega,?_⟩
     dsimp only
     rw [e,el,el2]
     rfl
   ·rw [hfin (by simp only [List.length_cons] at *; omega)]
    have hpu:((d :: r).map encT).all (pur 6)=true:=j0I _ 4
    refine j0s rfl (j08 (j4v (j08 rfl (j08 rfl (j08 rfl (j08 rfl (j08 (j0E rfl hln.symm hpu) j0n)))))) (j08 rfl j0n)) rfl ?_
    simp only [Option.map_some,putV]
    rw [j2q,j2f (by simp)]
    rfl
 ·obtain rfl:=ha1 (by omega)
  have hys0:ys=[]:=List.eq_nil_of_length_eq_zero (by simpa using hlen2)
  subst hys0
  have e:lvT (.mk k nn s ls []) bys=(j1k ls bys).map fun ls'=>.mk k nn s ls' []:=by
   rw [lvT]
   cases j1k ls bys <;> simp [lvTs]
  rw [e]
  have hll:ls.length ≤ 4:=by
   have h3:j0H k ≤ 1:=by unfold j0H; split <;> omega
   simp only [j2Z] at hnode
   split at hnode
   ·simp at hnode; simp [hnode.2.2.2]
   ·split at hnode
    ·simp at hnode; omega
    ·simp only [Bool.and_eq_true,decide_eq_true_eq] at hnode
     omega
  refine j00 Tryz.func262 rfl rfl rfl ?_
  repeat' ((conv=>whnf);first|refine VOk.mk rfl ?_)
  all_goals (try (conv=>whnf))
  refine j09 (G:=List Lv) (fun g=>[(25,iv g.length)]) (fun g=>match g with
    |[]=>[.box 25 [iv k,iv nn,sv s,.sl b z xs,.sl c y []],.box 25 zTm,.box 25 [iv k,iv nn,sv s,.sl true 0 [],.sl true 0 []]]
    |d :: r=>[.box 25 [iv k,iv nn,sv s,.sl b z xs,.sl c y []],.box 25 zTm,.box 25 [iv k,iv nn,sv s,.ms 5 (r.length + 1),.sl true 0 []],.dead,.dead,.row false 38 3 ((d :: r).map encL)]) (fun g=>g.length ≤ ls.length∧(j1k (ls.drop g.length) bys).map (g ++ ·)=j1k ls bys) (fun g=>ls.length - g.length) [] ⟨by simp,by simp⟩ rfl rfl ?_
  rintro don ⟨hi,hinv⟩
  have hround:∀ (hi':don.length < ls.length),∃ lc,ls[don.length]? = some lc∧∃ v,xs[don.length]? = some v∧LvP lc v∧Pf C1 285 [v,.sl bb bz bxs] (putL (Go.Gw.InstF lc bys)):=fun hi'=>by
   obtain ⟨lc,hlc⟩:∃ lc,ls[don.length]? = some lc:=⟨_,List.getElem?_eq_getElem hi'⟩
   obtain ⟨v,hv,hl⟩:=hxs.at hlc
   exact ⟨lc,hlc,v,hv,hl,hI _ _ hl⟩
  have hfin:¬ don.length < ls.length→j1k ls bys=some don:=fun hn=>by
   rw [List.drop_of_length_le (by omega),j1k] at hinv
   simpa using hinv.symm
  have hno:∀ {lc},ls[don.length]? = some lc→Go.Gw.InstF lc bys=none→j1k ls bys=none:=fun hlc h0=>by
   rw [jbe hlc,h0] at hinv
   simpa using hinv.symm
  have hyes:∀ {lc x},ls[don.length]? = some lc→Go.Gw.InstF lc bys=some x→(j1k (ls.drop (don ++ [x]).length) bys).map ((don ++ [x]) ++ ·)=j1k ls bys:=fun hlc h0=>by
   rw [jbe hlc,h0] at hinv
   rw [← hinv]
   simp [Function.comp_def]
  cases don with
  |nil =>
   repeat' ((conv=>whnf);first|apply gE<;>intro h|apply gQ)
   all_goals (try (conv=>whnf))
   ·obtain ⟨lc,hlc,v,hv,hl,hr⟩:=hround (by simp only [List.length_nil] at *; omega)
    obtain ⟨k1,n1,l1,b1,z1,x1,rfl,rfl,hz1,hxs1,hlen1,hbd1⟩:=hl.open
    cases h0:Go.Gw.InstF (.mk k1 n1 l1) bys with
    |none =>
     rw [h0] at hr
     repeat' ((conv=>whnf);first|apply gT|apply gO|refine j04 rfl ?_|refine VIdx.mk _ hv ?_|refine VOk.mk (j07 rfl hz) ?_|refine j01 hr rfl rfl ?_)
     all_goals (try (conv=>whnf))
     rw [hno hlc h0]
     rfl
    |some x =>
     rw [h0] at hr
     have hy1:=hyes hlc h0
     have e:[x].map encL=[encL x]:=rfl
     obtain ⟨k2,n2,b2,z2,x2,he⟩:=j0y x
     simp only [putL] at hr
     rw [he] at hr e
     repeat' ((conv=>whnf);first|apply gF|apply gO|refine gV ?_|refine VIdx.mk _ hv ?_|refine VOk.mk (j07 rfl hz) ?_|refine j01 hr rfl rfl ?_)
     all_goals (try (conv=>whnf))
     exact VAgain.mk _ rfl _ (j1b (.cons (j06 rfl rfl) (.cons (j06 rfl rfl) (.cons (j06 rfl rfl) (.cons (j06 rfl rfl) (.cons (j06 rfl rfl) (.cons (j0e rfl) .nil)))))) (.cons (j06 rfl rfl) (.cons (j06 rfl rfl) (.cons (j06 rfl rfl) (.cons j0o (.cons j0o (.cons (j0e rfl) .nil)))))) rfl rfl rfl rfl rfl) ⟨[x],⟨by simp only [List.length_cons,List.length_nil] at *; omega,hy1⟩,by simp only [List.length_cons,List.length_nil] at *; omega,congrArg (fun t=>(⟨_,[.box _ [iv k,iv nn,sv s,.sl b z xs,.sl c y []],.box _ zTm,.box _ [iv k,iv nn,sv s,.ms 5 1,.sl true 0 []],.dead,.dead,.row false _ 3 t]⟩:AS)) e.symm⟩
   ·rw [hfin (by simp only [List.length_nil] at *; omega)]
    refine j09 (G:=Unit) (fun _=>[]) (fun _=>_) (fun _=>True) (fun _=>0) () trivial rfl rfl ?_
    rintro _ _
    repeat' ((conv=>whnf);first|apply gF|apply gO|refine j04 rfl ?_)
    all_goals (try (conv=>whnf))
    rfl
  |cons d r =>
   have hln:((d :: r).map encL).length=r.length + 1:=by simp
   have hbl:r.length + 1 ≤ 4:=by simp only [List.length_cons] at hi; omega
   repeat' ((conv=>whnf);first|apply gE<;>intro h|apply gQ)
   all_goals (try (conv=>whnf))
   ·obtain ⟨lc,hlc,v,hv,hl,hr⟩:=hround (by simp only [List.length_cons] at *; omega)
    obtain ⟨k1,n1,l1,b1,z1,x1,rfl,rfl,hz1,hxs1,hlen1,hbd1⟩:=hl.open
    cases h0:Go.Gw.InstF (.mk k1 n1 l1) bys with
    |none =>
     rw [h0] at hr
     repeat' ((conv=>whnf);first|apply gT|apply gO|refine j04 rfl ?_|refine VIdx.mk _ hv ?_|refine VOk.mk (j07 rfl hz) ?_|refine j01 hr rfl rfl ?_)
     all_goals (try (conv=>whnf))
     rw [hno hlc h0]
     rfl
    |some x =>
     rw [h0] at hr
     have hy1:=hyes hlc h0
     have e:(d :: (r ++ [x])).map encL=(d :: r).map encL ++ [encL x]:=by simp
     have hp8:((d :: r).map encL ++ [encL x]).all (pur 8)=true:=e ▸ j2r _ 6
     obtain ⟨k2,n2,b2,z2,x2,he⟩:=j0y x
     simp only [putL] at hr
     rw [he] at hr e hp8
     repeat' ((conv=>whnf);first|apply gF|apply gO|refine gV ?_|refine VIdx.mk _ hv ?_|refine VOk.mk (j07 rfl hz) ?_|refine j01 hr rfl rfl ?_|refine VOk.mk (j1i (w:=40) (r:=140737488355328) hln rfl rfl rfl rfl (by simp only [List.length_cons,List.length_nil]; omega) (by simp only [List.length_cons,List.length_nil]; omega)) ?_)
     all_goals (try (conv=>whnf))
     have el:(((d :: (r ++ [x])).length:Nat):Int)=((d :: r).length:Nat) + 1:=by simp
     have el2:(r ++ [x]).length + 1=r.length + 1 + 1:=by simp
     refine VAgain.mk _ rfl _ (j1b (.cons (j06 rfl rfl) (.cons (j06 rfl rfl) (.cons (j06 rfl rfl) (.cons j0o (.cons j0o (.cons (j0e hp8) (.cons (j06 rfl rfl) (.cons (j06 rfl rfl) .nil)))))))) (.cons (j06 rfl rfl) (.cons (j06 rfl rfl) (.cons (j06 rfl rfl) (.cons j0o (.cons j0o (.cons (j0e hp8) .nil)))))) rfl rfl rfl rfl rfl) ⟨d :: (r ++ [x]),⟨by simp only [List.length_cons,List.length_append,List.length_nil] at *; omega,hy1⟩,by simp only [List.length_cons,List.length_append,List.length_nil] at *; omega,?_⟩
     dsimp only
     rw [e,el,el2]
     rfl
   ·rw [hfin (by simp only [List.length_cons] at *; omega)]
    have hpu:((d :: r).map encL).all (pur 6)=true:=j2r _ 4
    refine j09 (G:=Unit) (fun _=>[]) (fun _=>_) (fun _=>True) (fun _=>0) () trivial rfl rfl ?_
    rintro _ _
    repeat' ((conv=>whnf);first|apply gF|refine VOk.mk rfl ?_)
    all_goals (try (conv=>whnf))
    refine j0s rfl (j08 (j4v (j08 rfl (j08 rfl (j08 rfl (j08 (j0E rfl hln.symm hpu) (j08 rfl j0n)))))) (j08 rfl j0n)) rfl ?_
    simp only [Option.map_some,putV]
    rw [j2q,j6T (by simp)]
    rfl
open Go Go.Am Go.Gw
def LvW (l:Lv):Prop:=LvP l (encL l)
theorem LvP.w {l:Lv} {v:PV} (h:LvP l v):LvW l:=jc0 _ _ h
theorem LvsP.ws:∀ {ls:List Lv} {xs:List PV},LvsP ls xs→∀ l ∈ ls,LvW l
 |[],_,_,l,hl=>by cases hl
 |a :: r,xs,h,l,hl=>by
  simp only [LvsP] at h
  obtain ⟨v,xs',rfl,h1,h2⟩:=h
  rcases List.mem_cons.1 hl with rfl|hl
  ·exact h1.w
  ·exact LvsP.ws h2 l hl
theorem jhu:∀ {ls:List Lv},(∀ l ∈ ls,LvW l)→LvsP ls (ls.map encL)
 |[],_=>by simp only [List.map_nil,LvsP]
 |l :: r,h=>by
  simp only [List.map_cons,LvsP]
  exact ⟨_,_,rfl,h l (by simp),jhu fun x hx=>h x (by simp [hx])⟩
theorem jbu {ls:List Lv} (h:∀ l ∈ ls,LvW l):∃ b z xs,j7j ls = .sl b z xs∧(z=3∨xs=[])∧LvsP ls xs:=jg6 (jhu h)
theorem j8V {k n:Int} {ls:List Lv} (hl:ls.length ≤ 3518437208780) (h:∀ l ∈ ls,LvW l):LvW (.mk k n ls):=by
 obtain ⟨b,z,xs,e,hz,hx⟩:=jbu h
 unfold LvW
 rw [j9b,e]
 exact ⟨b,z,xs,rfl,hz,hx,hl⟩
theorem LvW.args {k n:Int} {ls:List Lv} (h:LvW (.mk k n ls)):(∀ l ∈ ls,LvW l)∧ls.length ≤ 3518437208780:=by
 unfold LvW at h
 simp only [LvP] at h
 obtain ⟨b,z,xs,_,hz,hx,hb⟩:=h
 exact ⟨hx.ws,hb⟩
theorem j7G {ts:List Tm} (h:∀ t ∈ ts,TmW t):∃ b z xs,j6Q ts = .sl b z xs∧(z=5∨xs=[])∧TmsP ts xs:=by
 cases ts with
 |nil=>exact ⟨_,_,_,rfl,.inr rfl,by simp only [TmsP]⟩
 |cons a r=>exact ⟨_,_,_,j2f (by simp),.inl rfl,j8o h⟩
theorem jq1 {k n:Int} {s:List UInt8} {ls:List Lv} {ts:List Tm} (hn:i64 n) (hs:s.length ≤ 140737488355328) (hl:ls.length ≤ 3518437208780) (h:∀ l ∈ ls,LvW l) (ht:ts.length ≤ 1759218604441) (h':∀ t ∈ ts,TmW t):TmW (.mk k n s ls ts):=by
 obtain ⟨b,z,xs,e,hz,hx⟩:=jbu h
 obtain ⟨c,y,ys,e',hy,hys⟩:=j7G h'
 unfold TmW
 rw [j2q,e,e']
 exact ⟨b,z,xs,c,y,ys,rfl,hz,hx,hl,hy,hys,ht,hs,hn⟩
theorem TmW.parts {k n:Int} {s:List UInt8} {ls:List Lv} {ts:List Tm} (h:TmW (.mk k n s ls ts)):i64 n∧s.length ≤ 140737488355328∧ls.length ≤ 3518437208780∧(∀ l ∈ ls,LvW l)∧ts.length ≤ 1759218604441∧∀ t ∈ ts,TmW t:=by
 unfold TmW at h
 simp only [TmP] at h
 obtain ⟨b,z,xs,c,y,ys,_,hz,hxs,hb,hy,hys,hc,hs,hn⟩:=h
 exact ⟨hn,hs,hb,hxs.ws,hc,hys.ws⟩
mutual
theorem jjX {bys:List Lv} (hb:∀ l ∈ bys,LvW l):∀ (l:Lv),LvW l→LvW (j2h l bys)
 | .mk k n ls,h=>by
  by_cases hk:k=2
  ·subst hk
   rw [jdJ,List.getD_eq_getElem?_getD]
   cases e:bys[n.toNat]? with
   |none=>exact j8V (by simp) (by simp)
   |some x=>exact hb x (List.mem_of_getElem? e)
  ·rw [jg8 hk,← j5q]
   obtain ⟨h1,h2⟩:=h.args
   have:=jgJ hb ls h1
   exact j8V (by rw [j5q,List.length_map]; exact h2) this
theorem jgJ {bys:List Lv} (hb:∀ l ∈ bys,LvW l):∀ (ls:List Lv),(∀ l ∈ ls,LvW l)→∀ x ∈ jaC ls bys,LvW x
 |[],_,x,hx=>by cases hx
 |l :: r,h,x,hx=>by
  rw [jaC] at hx
  rcases List.mem_cons.1 hx with rfl|hx
  ·exact jjX hb l (h l (by simp))
  ·exact jgJ hb r (fun l hl=>h l (by simp [hl])) x hx
end
theorem jov {l x:Lv} {bys:List Lv} (hb:∀ l ∈ bys,LvW l) (hl:LvW l) (h:Go.Gw.InstF l bys=some x):LvW x:=by
 unfold Go.Gw.InstF at h
 (repeat' split at h) <;> simp at h
 subst h
 exact jjX hb l hl
theorem jhj {bys:List Lv} (hb:∀ l ∈ bys,LvW l):∀ {ls xs:List Lv},(∀ l ∈ ls,LvW l)→j1k ls bys=some xs→(∀ l ∈ xs,LvW l)∧xs.length=ls.length
 |[],xs,_,h=>by simp [j1k] at h; subst h; simp
 |l :: r,xs,hl,h=>by
  rw [j1k] at h
  cases h0:Go.Gw.InstF l bys with
  |none=>rw [h0] at h; simp at h
  |some x =>
   rw [h0] at h
   cases h1:j1k r bys with
   |none=>rw [h1] at h; simp at h
   |some ys =>
    rw [h1] at h
    simp at h
    subst h
    obtain ⟨a,b⟩:=jhj hb (fun l hl'=>hl l (by simp [hl'])) h1
    refine ⟨?_,by simp [b]⟩
    intro y hy
    rcases List.mem_cons.1 hy with rfl|hy
    ·exact jov hb (hl l (by simp)) h0
    ·exact a y hy
mutual
theorem jon {bys:List Lv} (hb:∀ l ∈ bys,LvW l):∀ {t x:Tm},TmW t→lvT t bys=some x→TmW x
 | .mk k n s ls ts,x,hw,h=>by
  obtain ⟨hn,hs,hll,hl,htl,ht⟩:=hw.parts
  rw [lvT] at h
  cases h0:j1k ls bys with
  |none=>rw [h0] at h; simp at h
  |some ls' =>
   rw [h0] at h
   cases h1:lvTs ts bys with
   |none=>rw [h1] at h; simp at h
   |some ts' =>
    rw [h1] at h
    simp at h
    subst h
    obtain ⟨a,b⟩:=jhj hb hl h0
    obtain ⟨c,d⟩:=jnT hb ht h1
    exact jq1 hn hs (by omega) a (by omega) c
theorem jnT {bys:List Lv} (hb:∀ l ∈ bys,LvW l):∀ {ts xs:List Tm},(∀ t ∈ ts,TmW t)→lvTs ts bys=some xs→(∀ t ∈ xs,TmW t)∧xs.length=ts.length
 |[],xs,_,h=>by simp [lvTs] at h; subst h; simp
 |t :: r,xs,hl,h=>by
  rw [lvTs] at h
  cases h0:lvT t bys with
  |none=>rw [h0] at h; simp at h
  |some x =>
   rw [h0] at h
   cases h1:lvTs r bys with
   |none=>rw [h1] at h; simp at h
   |some ys =>
    rw [h1] at h
    simp at h
    subst h
    obtain ⟨a,b⟩:=jnT hb (fun l hl'=>hl l (by simp [hl'])) h1
    refine ⟨?_,by simp [b]⟩
    intro y hy
    rcases List.mem_cons.1 hy with rfl|hy
    ·exact jon hb (hl t (by simp)) h0
    ·exact a y hy
end
def j1x (t:Tm) (bys:List Lv):Option Tm:=if j0L t bys.length 1125899906842624=true then match lvT t bys with
  |none=>none
  |some x=>if j0x x ≤ 2000 then some x else none
 else none
theorem jbd (bys:List Lv) (bb:Bool) (bz:Nat) (bxs:List PV) (hbz:bz=3∨bxs=[]) (hbxs:LvsP bys bxs) (hbb:bys.length ≤ 1000000) (t:Tm) (v:PV) (h:TmP t v):Pf C1 231 [v,.sl bb bz bxs] (putV (j1x t bys)):=by
 have hlenb:=hbxs.len
 have hr:=j0P t v h bys.length 1125899906842624
 rw [← hlenb] at hr
 have eI:j1x t bys=if j0L t bys.length 1125899906842624=true then match lvT t bys with
  |none=>none
  |some x=>if j0x x ≤ 2000 then some x else none
 else none:=rfl
 rw [← hlenb] at eI
 by_cases c1:j0L t bxs.length 1125899906842624=true
 ·rw [if_pos c1] at eI
  rw [c1] at hr
  have hl:=jiz bys bb bz bxs hbz hbxs hbb t v h bxs.length _ (j3r c1).2.2.2
  have hw:=fun x=>jon (x:=x) hbxs.ws h.w
  obtain ⟨k1,n1,s1,l1,t1,b1,z1,x1,c1,y1,ys1,rfl,rfl,-⟩:=h.open
  cases h0:lvT (.mk k1 n1 s1 l1 t1) bys with
  |none =>
   rw [h0] at hl eI
   dsimp only at eI
   rw [eI]
   simp only [putV] at hl
   refine j00 Tryz.func231 rfl rfl rfl ?_
   repeat' ((conv=>whnf);first|apply gT|apply gF|apply gO|refine j04 rfl ?_|refine j01 hr rfl rfl ?_|refine j01 hl rfl rfl ?_)
   all_goals (try (conv=>whnf))
   all_goals rfl
  |some x =>
   have hx:=hw x h0
   have hn:=j1A x _ hx
   rw [h0] at hl eI
   dsimp only at eI
   rw [eI]
   simp only [putV] at hl
   obtain ⟨k2,n2,s2,b2,z2,x2,c2,y2,ys2,he⟩:=j0a x
   rw [he] at hl hn
   by_cases c2:j0x x ≤ 2000
   ·rw [if_pos c2]
    simp only [putV]
    rw [he]
    refine j00 Tryz.func231 rfl rfl rfl ?_
    repeat' ((conv=>whnf);first|apply gF|apply gE<;>intro h|apply gO|refine j04 rfl ?_|refine j01 hr rfl rfl ?_|refine j01 hl rfl rfl ?_|refine j01 hn rfl rfl ?_)
    all_goals (try (conv=>whnf))
    all_goals first|rfl|(exfalso; omega)
   ·rw [if_neg c2]
    refine j00 Tryz.func231 rfl rfl rfl ?_
    repeat' ((conv=>whnf);first|apply gF|apply gE<;>intro h|apply gO|refine j04 rfl ?_|refine j01 hr rfl rfl ?_|refine j01 hl rfl rfl ?_|refine j01 hn rfl rfl ?_)
    all_goals (try (conv=>whnf))
    all_goals first|rfl|(exfalso; omega)
 ·rw [if_neg c1] at eI
  rw [Bool.not_eq_true] at c1
  rw [c1] at hr
  rw [eI]
  obtain ⟨k1,n1,s1,l1,t1,b1,z1,x1,c1,y1,ys1,rfl,rfl,-⟩:=h.open
  refine j00 Tryz.func231 rfl rfl rfl ?_
  repeat' ((conv=>whnf);first|apply gT|apply gO|refine j04 rfl ?_|refine j01 hr rfl rfl ?_)
  all_goals (try (conv=>whnf))
  all_goals rfl
open Go Go.Am Go.Gw
def jpr (b:Bool) (z:Nat) (xs:List PV):PV:=.fn 232 [] [.cp [.sl b z xs]]
theorem jct (b:Bool) (z:Nat) (xs:List PV):Pf C1 199 [.sl b z xs] [jpr b z xs]:=by
 refine j00 Tryz.func199 rfl rfl rfl ?_
 skip
 all_goals (try (conv=>whnf))
 refine j0s rfl rfl rfl ?_
 rfl
structure TV where
 k:Int
 n:Int
 s:List UInt8
 b:Bool
 z:Nat
 xs:List PV
 c:Bool
 y:Nat
 ys:List PV
def TV.cs (w:TV):List PV:=[iv w.k,iv w.n,sv w.s,.sl w.b w.z w.xs,.sl w.c w.y w.ys]
def overR (kind:Int):List Tm→Tm→Tm
 |[],o=>o
 |x :: r,o=>overR kind r (.mk kind 0 [] [] [x,o])
def ovLP (q e:TV) (b:Bool) (z:Nat) (xs:List PV) (kind:Int) (a c:Code) (s:LpS):SO:=.lp [(13,jpr b z xs),(12,.sl b z xs),(7,.bp 1 0),(11,.ag e.cs),(10,.ag q.cs),(6,.bp 2 0),(4,.bp 3 0),(3,.bp 4 0),(0,iv kind),(1,.ag q.cs),(2,.sl b z xs)] [14,15] a c s
def ovS (lp:SO) (q:TV) (kind:Int) (w:TV):Sto:=[lp,.box 25 w.cs,.box 25 zTm,.box 25 q.cs,.box 3 [iv kind]]
def OvOk (lp:LpS→SO) (q:TV) (kind:Int):Prop:=∀ (i:Int) (x:Tm) (v:PV),TmP x v→∀ (o:Tm) (w:TV),TmP o (.ag w.cs)→FindsY C1 [.yl 0,iv i,v] (ovS (lp .ready) q kind w) fun r st=>r = .ret [bv true]∧∃ w',TmP (.mk kind 0 [] [] [x,o]) (.ag (TV.cs w'))∧st=ovS (lp .ready) q kind w'
theorem jis (q e:TV) (kind:Int) (b:Bool) (z:Nat) (xs:List PV) (l:List Tm) (hz:z=5∨xs=[]) (hxs:TmsP l xs) (hl:l.length ≤ 1000000) (a c:Code) (hY:OvOk (ovLP q e b z xs kind a c) q kind) (o0:Tm) (w0:TV) (hw0:TmP o0 (.ag w0.cs)) :
  Finds C1 232 [.yl 0,.cp [.sl b z xs]] (ovS (ovLP q e b z xs kind a c .ready) q kind w0) fun r st=>r = .ret []∧∃ w',TmP (overR kind l.reverse o0) (.ag (TV.cs w'))∧st=ovS (ovLP q e b z xs kind a c .ready) q kind w':=by
 have hlen:=hxs.len
 refine j00 Tryz.func232 rfl rfl rfl ?_
 repeat' ((conv=>whnf);first|refine VArith.fits (by unfold i64; omega) ?_)
 all_goals (try (conv=>whnf))
 refine j09 (G:=Nat × Tm × TV) (fun g=>[(3,iv ((g.1:Int) - 1))]) (fun g=>ovS (ovLP q e b z xs kind a c .ready) q kind g.2.2) (fun g=>g.1 ≤ l.length∧TmP g.2.1 (.ag g.2.2.cs)∧overR kind (l.take g.1).reverse g.2.1=overR kind l.reverse o0) (fun g=>g.1) (xs.length,o0,w0) ⟨by dsimp only; omega,hw0,by dsimp only; rw [List.take_of_length_le (by omega)]⟩ rfl rfl ?_
 rintro ⟨k,o,w⟩ ⟨hk,hw,hcl⟩
 dsimp only at hk hw hcl ⊢
 repeat' ((conv=>whnf);first|apply gE<;>intro h|refine j03 rfl rfl ?_)
 all_goals (try (conv=>whnf))
 ·obtain ⟨j,rfl⟩:∃ j,k=j + 1:=⟨k - 1,by omega⟩
  obtain ⟨x,hx⟩:∃ x,l[j]? = some x:=⟨_,List.getElem?_eq_getElem (by omega)⟩
  obtain ⟨v,hv,hlo⟩:=hxs.at hx
  have hy:=hY ((((j + 1:Nat):Int)) - 1) x v hlo o w hw
  have hti:(((j + 1:Nat):Int) - 1).toNat=j:=by omega
  have hcl2:overR kind (l.take j).reverse (.mk kind 0 [] [] [x,o])=overR kind l.reverse o0:=by
   rw [← hcl,take_snoc' hx,List.reverse_append]
   rfl
  obtain ⟨k1,n1,s1,l1,t1,b1,z1,x1,c1,y1,ys1,rfl,rfl,-⟩:=hlo.open
  refine VNat.nonneg (by omega) ?_
  rw [hti]
  repeat' ((conv=>whnf);first|refine VIdx.mk _ hv ?_|refine VOk.mk (j07 rfl hz) ?_)
  all_goals (try (conv=>whnf))
  refine jiT rfl (.cons (jgu rfl rfl) (.cons (j1n rfl rfl) (.cons (j1n rfl rfl) (.cons (j1n rfl rfl) (.cons (j1n rfl rfl) .nil))))) rfl rfl rfl rfl (j9a hy ?_)
  rintro r st ⟨rfl,w',hw',rfl⟩
  refine jnq (st':=ovS (ovLP q e b z xs kind a c .ready) q kind w') (.cons (jgu rfl rfl) (.cons (j1n rfl rfl) (.cons (j1n rfl rfl) (.cons (j1n rfl rfl) (.cons (j1n rfl rfl) .nil))))) rfl rfl (by kernel_rfl) ?_
  repeat' ((conv=>whnf);first|apply gF|refine VArith.fits (by unfold i64; omega) ?_)
  all_goals (try (conv=>whnf))
  have ei:((j + 1:Nat):Int) - 1 - 1=(j:Int) - 1:=by omega
  rw [ei]
  exact VAgain.mk _ rfl _ (j0V rfl) ⟨(j,_,w'),⟨by omega,hw',hcl2⟩,by omega,rfl⟩
 ·obtain rfl:k=0:=by omega
  rw [List.take_zero,List.reverse_nil,overR] at hcl
  rw [← hcl]
  exact ⟨rfl,w,hw,rfl⟩
theorem jmz (kind:Int) (t:Tm) (v:PV) (h:TmP t v) (l:List Tm) (b:Bool) (z:Nat) (xs:List PV) (hz:z=5∨xs=[]) (hxs:TmsP l xs) (hl:l.length ≤ 1000000):RT 166 [iv kind,v,.sl b z xs] (overR kind l.reverse t):=by
 have hf:=j2B t v h
 have hbk:=jct b z xs
 have hte:=h.w
 unfold TmW at hte
 obtain ⟨k2,n2,s2,b2,z2,x2,c2,y2,ys2,he⟩:=j0a t
 rw [he] at hf hte
 obtain ⟨k0,nn0,s0,ls0,ts0,b0,z0,xs0,c0,y0,ys0,rfl,rfl,-⟩:=h.open
 have hmain:Finds C1 166 [iv kind,.ag [iv k0,iv nn0,sv s0,.sl b0 z0 xs0,.sl c0 y0 ys0],.sl b z xs] [] fun r _=>∃ w,TmP (overR kind l.reverse (.mk k0 nn0 s0 ls0 ts0)) w∧r = .ret [w]:=by
  refine j00 Tryz.func166 rfl rfl rfl ?_
  repeat' ((conv=>whnf);first|apply gO|refine j01 hf rfl rfl ?_|refine j01 hbk rfl rfl ?_)
  all_goals (try (conv=>whnf))
  refine jeC (st0:=ovS (ovLP ⟨k0,nn0,s0,b0,z0,xs0,c0,y0,ys0⟩ ⟨k2,n2,s2,b2,z2,x2,c2,y2,ys2⟩ b z xs kind _ _ .ready) ⟨k0,nn0,s0,b0,z0,xs0,c0,y0,ys0⟩ kind ⟨k2,n2,s2,b2,z2,x2,c2,y2,ys2⟩) (args0:=[.yl 0,.cp [.sl b z xs]]) rfl rfl (.cons (j1n rfl rfl) (.cons (j1n rfl rfl) (.cons (j1n rfl rfl) (.cons (j1n rfl rfl) (.cons (jgu rfl rfl) .nil))))) rfl rfl rfl rfl (Finds.mono (jis ⟨k0,nn0,s0,b0,z0,xs0,c0,y0,ys0⟩ ⟨k2,n2,s2,b2,z2,x2,c2,y2,ys2⟩ kind b z xs l hz hxs hl _ _ ?_ (.mk k0 nn0 s0 ls0 ts0) ⟨k2,n2,s2,b2,z2,x2,c2,y2,ys2⟩ hte) ?_)
  ·intro i x v hlo o w hw
   have hfx:=j2B x v hlo
   have hxw:=hlo.w
   unfold TmW at hxw
   obtain ⟨k8,n8,s8,b8,z8,x8,c8,y8,ys8,he8⟩:=j0a x
   rw [he8] at hfx hxw
   obtain ⟨k1,n1,s1,l1,t1,b1,z1,x1,c1,y1,ys1,rfl,rfl,-⟩:=hlo.open
   refine j9u rfl rfl ?_
   repeat' ((conv=>whnf);first|apply gO|apply gP|refine j05 hfx (fun _=>?_)|apply gK)
   all_goals (try (conv=>whnf))
   refine ⟨rfl,⟨kind,0,[],true,0,[],true,5,[.ag [iv k8,iv n8,sv s8,.sl b8 z8 x8,.sl c8 y8 ys8],.ag w.cs]⟩,jlQ hxw hw true,by kernel_rfl⟩
  ·rintro r st ⟨rfl,w',hw',rfl⟩
   refine j5k (.cons (jgu rfl rfl) (.cons (j1n rfl rfl) (.cons (j1n rfl rfl) (.cons (j1n rfl rfl) (.cons (j1n rfl rfl) .nil))))) rfl ?_
   repeat' ((conv=>whnf);first|apply gO|refine j04 rfl ?_)
   all_goals (try (conv=>whnf))
   exact ⟨_,hw',rfl⟩
 obtain ⟨r,st,⟨w,hw,rfl⟩,N,hN⟩:=hmain
 exact ⟨w,hw,⟨_,st,rfl,N,hN⟩⟩
theorem jo9 (t:Tm) (v:PV) (h:TmP t v) (l:List Tm) (b:Bool) (z:Nat) (xs:List PV) (hz:z=5∨xs=[]) (hxs:TmsP l xs) (hl:l.length ≤ 1000000):RT 114 [v,.sl b z xs] (overR 6 l.reverse t):=by
 obtain ⟨w,hw,hp⟩:=jmz 6 t v h l b z xs hz hxs hl
 refine ⟨w,hw,?_⟩
 obtain ⟨k1,n1,s1,l1,t1,b1,z1,x1,c1,y1,ys1,rfl,rfl,-⟩:=h.open
 obtain ⟨k2,n2,s2,l2,t2,b2,z2,x2,c2,y2,ys2,-,rfl,-⟩:=hw.open
 refine j00 Tryz.func114 rfl rfl rfl ?_
 repeat' ((conv=>whnf);first|apply gO|refine j04 rfl ?_|refine j01 hp rfl rfl ?_)
 all_goals (try (conv=>whnf))
 all_goals rfl
end Go.Proofs.YtljnahbgfmflaaaGreatDoor

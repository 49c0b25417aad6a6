/-
  Whether a level is at most another one (package level), in the plain machine: the form of a level. No statement of the seat.
-/
import Derived.Test.YtljnahbgfmflaaaGreatDoorZFa
import Derived.Test.YtljnahbgfmflaaaGreatDoorZTw
import Derived.Test.YtljnahbgfmflaaaGreatDoorZUa
set_option linter.unusedVariables false
set_option maxHeartbeats 1000000
set_option maxRecDepth 100000
set_option linter.unusedSimpArgs false
set_option linter.unnecessarySimpa false
namespace Go.Proofs.YtljnahbgfmflaaaGreatDoor
open Go Go.Am Go.Gw
theorem sshr {P:Program} {T:TypeId} {x y:Operand} {i j:Int} {q:Nat} (hq:j=(q:Int)) (hlt:q ≤ 63):j0l P .shr T x y (iv i) (iv j)=some (iv (i / 2 ^ q)):=by
 have h1:¬ j < 0:=by omega
 have h2:min j.toNat IntKind.i64.bits=q:=by simp [IntKind.bits]; omega
 have h3:i.fdiv (2 ^ q)=i / 2 ^ q:=Int.fdiv_eq_ediv_of_nonneg i (Int.le_of_lt (Int.pow_pos (by omega)))
 simp only [j0l,j5I,eqGuard,binOp,Op.shift,if_neg h1,h2,h3]
 rfl
theorem jqQ {P:Program} {T:TypeId} {x y:Operand} {i:Int} (h0:0 ≤ i) (h1:i < 64):j0l P .and T x y (iv i) (iv 1)=some (iv (i % 2)):=by
 have h:=jd0 ⟨i.toNat,by omega⟩
 simp only [Int.toNat_of_nonneg h0] at h
 have e:((i.toNat % 2:Nat):Int)=i % 2:=by omega
 rw [e] at h
 simp only [j0l,j5I,eqGuard,binOp,ne_eq,not_true_eq_false,if_false,Op.intBits]
 rw [← h]
 rfl
theorem jnn {z:Int} {q:Nat} (h:z / 2 ^ q % 2=0):j6L z q=⟨-1,fun j=>if (j:Int)=q then 0 else -1⟩:=by
 unfold j6L bit; rw [if_pos (by simpa using h)]
theorem jmg {z:Int} {q:Nat} (h:¬ z / 2 ^ q % 2=0):j6L z q=j2b 0:=by
 unfold j6L bit; rw [if_neg (by simpa using h)]
theorem joW {nn z:Int} {ls:List Lv}:j1U (.mk 2 nn ls) z=j6L z nn:=by simp [j1U,j4f]
theorem joi {nn z:Int} {ls:List Lv}:j1U (.mk 1 nn ls) z=j2b nn:=by simp [j1U,j4f]
theorem jfg (q:Nat) (hq:q < 4) (zz:Nat) (b:Bool) (xs:List PV) (z:Int) (hz:zz=3∨xs=[]) (hz0:0 ≤ z) (hz1:z < 16):Pf C1 82 [.ag [iv 2,iv q,.sl b zz xs],iv z] [fmV (j6L z q)]:=by
 have hc0:=j3q 0
 obtain rfl|rfl|rfl|rfl:q=0∨q=1∨q=2∨q=3:=by omega
 all_goals
  refine j00 Tryz.func82 rfl rfl rfl ?_
  repeat' ((conv=>whnf);first|apply gT|apply gF|apply gO|refine j01 hc0 rfl rfl ?_)
  all_goals (try (conv=>whnf))
  refine VRes.mk _ (sshr rfl (by omega)) ?_
  skip
  all_goals (try (conv=>whnf))
  refine VRes.mk _ (jqQ (jpK hz0) (jqb hz0 hz1)) ?_
  repeat' ((conv=>whnf);first|apply gE<;>intro h|apply gO|apply gQ|refine j04 rfl ?_)
  all_goals (try (conv=>whnf))
  ·rw [jnn (by assumption)]
   rfl
  ·rw [jmg (by assumption)]
   rfl
theorem jb1 (l:Lv):∀ v,LvP l v→∀ (z:Int),allF l 4=true→j0C l ≤ 100000→0 ≤ z→z < 16→Pf C1 82 [v,iv z] [fmV (j1U l z)]:=by
 induction l using Lv.ind with
 |_ k nn ls ih =>
 intro v h z hall hsz hz0 hz1
 obtain ⟨_,_,_,b,zz,xs,⟨rfl,rfl,rfl⟩,rfl,hz,hxs,hlen,hbd⟩:=h.open
 have hc:=j3q nn
 have hc0:=j3q 0
 by_cases h2:k=2
 ·subst h2
  obtain ⟨h0,h4⟩:=jlo hall rfl
  obtain ⟨q,rfl⟩:=Int.eq_ofNat_of_zero_le h0
  rw [joW]
  exact jfg q (by omega) zz b xs z hz hz0 hz1
 refine j00 Tryz.func82 rfl rfl rfl ?_
 repeat' ((conv=>whnf);first|refine gB ?_|apply gE<;>intro h|apply gO|apply gQ|refine j04 rfl ?_|refine j01 hc rfl rfl ?_)
 all_goals (try (conv=>whnf))
 ·subst h
  rw [joi]
  rfl
 ·have hk3:k=3:=h
  obtain ⟨x,rfl⟩:=jmY hall h
  have hax:=j7n hall (i:=0) rfl
  have hsx:=jcU hsz (i:=0) rfl
  obtain ⟨v,hv,hl⟩:=hxs.at (i:=0) rfl
  have hr:=ih x (by simp) v hl z hax hsx hz0 hz1
  have hra:=jjE (j1U x z) (jps (jgN _ z hax) hsx)
  obtain ⟨k1,n1,l1,b1,z1,x1,rfl,rfl,hz1',hxs1,hlen1,hbd1⟩:=hl.open
  refine VIdx.mk _ hv (VOk.mk (j07 rfl hz) ?_)
  repeat' ((conv=>whnf);first|apply gO|refine j04 rfl ?_|refine j01 hr rfl rfl ?_|refine j01 hra rfl rfl ?_)
  all_goals (try (conv=>whnf))
  subst hk3
  rw [je8]
  rfl
 ·have hk3:¬ k=3:=h
  have k2:¬ k=2:=h2
  have k1:¬ k=1:=by assumption
  obtain ⟨x,y,rfl⟩:=joI hall k1 k2 h
  have hax:=j7n hall (i:=0) rfl
  have hsx:=jcU hsz (i:=0) rfl
  have hay:=j7n hall (i:=1) rfl
  have hsy:=jcU hsz (i:=1) rfl
  obtain ⟨v,hv,hl⟩:=hxs.at (i:=0) rfl
  obtain ⟨w,hw,hm⟩:=hxs.at (i:=1) rfl
  have hrx:=ih x (by simp) v hl z hax hsx hz0 hz1
  have hry:=ih y (by simp) w hm z hay hsy hz0 hz1
  have hzr:=jlZ (j1U y z)
  have hj:=jji (j1U x z) (j1U y z)
  obtain ⟨k1',n1,l1,b1,z1,x1,rfl,rfl,hz1',hxs1,hlen1,hbd1⟩:=hl.open
  obtain ⟨k2',n2,l2,b2,z2,x2,rfl,rfl,hz2',hxs2,hlen2,hbd2⟩:=hm.open
  refine VIdx.mk _ hw (VOk.mk (j07 rfl hz) ?_)
  repeat' ((conv=>whnf);first|apply gF|refine gA ?_|refine gB ?_|apply gE<;>intro h|apply gM<;>intro h|apply gO|apply gQ|refine j04 rfl ?_|refine j01 hry rfl rfl ?_|refine j01 hzr rfl rfl ?_)
  all_goals (try (conv=>whnf))
  ·rename_i h5
   rw [j6I k1 k2 hk3,if_pos ⟨h5,by assumption⟩]
   rfl
  ·refine VIdx.mk _ hv (VOk.mk (j07 rfl hz) ?_)
   repeat' ((conv=>whnf);first|apply gO|apply gP|refine j04 rfl ?_|refine j05 hrx (fun _=>?_)|refine j05 hj (fun _=>?_)|apply gK)
   all_goals (try (conv=>whnf))
   rw [j6I k1 k2 hk3,if_neg (fun e=>by simp_all)]
   rfl
  ·refine VIdx.mk _ hv (VOk.mk (j07 rfl hz) ?_)
   repeat' ((conv=>whnf);first|apply gO|apply gP|refine j04 rfl ?_|refine j05 hrx (fun _=>?_)|refine j05 hj (fun _=>?_)|apply gK)
   all_goals (try (conv=>whnf))
   rw [j6I k1 k2 hk3,if_neg (fun e=>by simp_all)]
   rfl
theorem jcX (x y:Lv) (v w:PV) (hx:LvP x v) (hy:LvP y w):Pf C1 48 [v,w] [bv (leqF x y)]:=by
 have h1:=j2c x v hx 4
 have h2:=j2c y w hy 4
 have hfx:=jb1 x v hx
 have hfy:=jb1 y w hy
 obtain ⟨k,n,ls,b,z,xs,hxe,rfl,hz,hxs,hlen,hbd⟩:=hx.open
 obtain ⟨k',n',ls',b',z',xs',hye,rfl,hz',hxs',hlen',hbd'⟩:=hy.open
 refine j00 Tryz.func48 rfl rfl rfl ?_
 repeat' ((conv=>whnf);first|apply gT|apply gN|refine gC ?_|refine gD ?_|apply gM<;>intro h|refine j04 rfl ?_|refine j01 h1 rfl rfl ?_|refine j01 h2 rfl rfl ?_)
 all_goals (try (conv=>whnf))
 ·refine j09 (G:=Nat) (fun i=>[(14,iv i)]) (fun i=>_) (fun i=>i ≤ 16∧jes x y i=true) (fun i=>16 - i) 0 ⟨by omega,rfl⟩ rfl rfl ?_
  rintro i ⟨hi,ht⟩
  have e2:j0w y 4=true:=h
  rename_i e1
  have hf:=fun (h:i < 16)=>hfx i (j9V e1) (j7o e1) (by omega) (by omega)
  have hg:=fun (h:i < 16)=>hfy i (j9V e2) (j7o e2) (by omega) (by omega)
  have hb:=jkm (j1U x i) (j1U y i) (jps (jgN _ i (j9V e2)) (j7o e2))
  repeat' ((conv=>whnf);first|apply gN|apply gE<;>intro h|apply gM<;>intro h|apply gO|apply gP|refine gV ?_|refine j04 rfl ?_|refine j05 (hf (by omega)) (fun _=>?_)|refine j05 (hg (by omega)) (fun _=>?_)|refine j05 hb (fun _=>?_)|apply gK)
  all_goals (try (conv=>whnf))
  ·have hb1:=h
   refine VAgain.mk _ rfl _ (j0h rfl rfl rfl) ⟨i + 1,⟨by omega,?_⟩,by omega,rfl⟩
   simp [jes,ht,hb1]
  ·have hb1:=h
   rw [leqF,e1,e2,jfP (i:=i) (by omega) hb1]
   rfl
  ·have hb1:=h
   obtain rfl:i=16:=by omega
   rw [leqF,e1,e2,ht]
   rfl
 ·simp_all [leqF]
 ·simp_all [leqF]
theorem jkW (k:Int):Pf C1 38 [iv k] [.ag [iv 1,iv k,.sl true 0 []]]:=by
 refine j00 Tryz.func38 rfl rfl rfl ?_
 repeat' ((conv=>whnf);first|apply gO|refine j04 rfl ?_)
 all_goals (try (conv=>whnf))
 rfl
open Go Go.Am Go.Gw
def cn (s:List UInt8):Tm:=.mk 3 0 s [] []
def plN (put:Tm→Int→Option Tm) (t:Tm) (d:Int) (r:List Tm):Tm:=match put t d with
 |some x=>x
 |none=>if t.args.length=0 then t else .mk t.kind 0 [] [] r
mutual
def plF (put:Tm→Int→Option Tm):Tm→Int→Tm
 | .mk k n s ls ts,d=>plN put (.mk k n s ls ts) d (plFs put ts k 0 d)
def plFs (put:Tm→Int→Option Tm):List Tm→Int→Int→Int→List Tm
 |[],_,_,_=>[]
 |t :: r,k,i,d=>plF put t (j0m (j0j k) i d) :: plFs put r k (i + 1) d
end
section
variable {put:Tm→Int→Option Tm} {t x:Tm} {d:Int} {r:List Tm}
theorem j1V (h:put t d=some x):plN put t d r=x:=by rw [plN,h]
theorem j1d (h:put t d=none) (ha:t.args.length=0):plN put t d r=t:=by rw [plN,h]; exact if_pos ha
theorem j2P (h:put t d=none) (ha:¬ t.args.length=0):plN put t d r = .mk t.kind 0 [] [] r:=by rw [plN,h]; exact if_neg ha
end
theorem j3g (put:Tm→Int→Option Tm):∀ (ts:List Tm) (k i d:Int),(plFs put ts k i d).length=ts.length
 |[],k,i,d=>by simp [plFs]
 |t :: r,k,i,d=>by simp only [plFs,List.length_cons,j3g put r]
mutual
theorem jjg {put:Tm→Int→Option Tm} (hs:∀ t d x,put t d=some x→sizT x ≤ sizT t):∀ (t:Tm) (d left:Int),(sizT t:Int) ≤ left→sizT t ≤ 2000→(bldF put t d left).1=plF put t d∧left - sizT t ≤ (bldF put t d left).2∧sizT (plF put t d) ≤ sizT t
 | .mk k n s ls ts,d,left,h1,h2=>by
  rw [bldF,plF]
  have hp1:1 + j0B ts ≤ sizT (.mk k n s ls ts):=by rw [sizT]; omega
  cases hp:put (.mk k n s ls ts) d with
  |some x =>
   have:=hs _ _ _ hp
   have hx:=j1X x
   rw [j4n (by omega) hp,j1V hp]
   refine ⟨rfl,?_,this⟩
   dsimp only
   omega
  |none =>
   by_cases ha:ts.length=0
   ·have hx:=j1X (.mk k n s ls ts)
    rw [j3i (by omega) hp ha,j1d hp ha]
    refine ⟨rfl,?_,Nat.le_refl _⟩
    dsimp only
    omega
   ·rw [j3f (by omega) hp ha,j2P hp ha]
    have ih:=jgi hs ts k 0 d (left - 1) (by omega) (by omega)
    refine ⟨by dsimp only; rw [ih.1],by dsimp only; omega,?_⟩
    rw [sizT,j0c]
    omega
theorem jgi {put:Tm→Int→Option Tm} (hs:∀ t d x,put t d=some x→sizT x ≤ sizT t):∀ (ts:List Tm) (k i d left:Int),(j0B ts:Int) ≤ left→j0B ts ≤ 2000→(j1f put ts k i d left).1=plFs put ts k i d∧left - j0B ts ≤ (j1f put ts k i d left).2∧j0B (plFs put ts k i d) ≤ j0B ts
 |[],k,i,d,left,h1,h2=>by simp [j1f,plFs,j0B] at *
 |t :: r,k,i,d,left,h1,h2=>by
  rw [j0B] at h1 h2
  simp only [j1f,plFs,j0B]
  have a:=jjg hs t (j0m (j0j k) i d) left (by omega) (by omega)
  have b:=jgi hs r k (i + 1) d (bldF put t (j0m (j0j k) i d) left).2 (by omega) (by omega)
  refine ⟨?_,by omega,by omega⟩
  rw [a.1,b.1]
end
theorem jmh {put:Tm→Int→Option Tm} (hs:∀ t d x,put t d=some x→sizT x ≤ sizT t) {t:Tm} (h:sizT t ≤ 2000):j2I put t=some (plF put t 0):=by
 have a:=jjg hs t 0 2000 (by omega) h
 unfold j2I
 rw [if_neg (by omega),a.1]
theorem joJ {t:Tm} (h:anyT t=true):sizT t ≤ 2000:=by
 have:=(j2A h).1
 rw [j1X] at this
 omega
theorem joQ (s:List UInt8) (p kk:Int):allT (cn s) p kk=j2G s:=by
 simp [cn,allT,j2Z,j0T,j1m,j0J]
def opF (ns:List (List UInt8)) (t:Tm) (d:Int):Option Tm:=if t.kind=1∧d ≤ t.num then some (if (ns.length:Int) ≤ t.num - d then .mk 1 (t.num - ns.length) [] [] [] else cn (ns.getD ((ns.length:Int) - 1 - (t.num - d)).toNat [])) else none
theorem j4q {ns:List (List UInt8)} {t:Tm} {d:Int} (h:¬ (t.kind=1∧d ≤ t.num)):opF ns t d=none:=if_neg h
theorem jbE {ns:List (List UInt8)} {t:Tm} {d:Int} (h:t.kind=1∧d ≤ t.num) (h2:(ns.length:Int) ≤ t.num - d):opF ns t d=some (.mk 1 (t.num - ns.length) [] [] []):=by
 unfold opF
 rw [if_pos h,if_pos h2]
theorem jcL {ns:List (List UInt8)} {t:Tm} {d:Int} (h:t.kind=1∧d ≤ t.num) (h2:¬ (ns.length:Int) ≤ t.num - d):opF ns t d=some (cn (ns.getD ((ns.length:Int) - 1 - (t.num - d)).toNat [])):=by
 unfold opF
 rw [if_pos h,if_neg h2]
theorem jk1 {b f d:Int} {t:Tm} (h:t.kind=1∧¬ t.num < f + d):movF b f t d=some (.mk 1 (t.num + b) [] [] []):=if_pos h
theorem j9G {b f d:Int} {t:Tm} (h:¬ (t.kind=1∧¬ t.num < f + d)):movF b f t d=none:=if_neg h
theorem jgV (t:Tm):1 ≤ sizT t:=by
 obtain ⟨k,n,s,ls,ts⟩:=t
 rw [sizT]
 omega
def abF (c:List UInt8) (t:Tm) (d:Int):Option Tm:=if t.kind=3∧t.name=c then some (.mk 1 d [] [] []) else movF 1 0 t d
theorem jcB {c:List UInt8} {t:Tm} {d:Int} (h:¬ (t.kind=3∧t.name=c)):abF c t d=movF 1 0 t d:=if_neg h
mutual
def j4z:Tm→List (List UInt8)
 | .mk k _ s _ ts=>(if k=3 then [s] else []) ++ j2v ts
def j2v:List Tm→List (List UInt8)
 |[]=>[]
 |t :: r=>j4z t ++ j2v r
end
theorem j3Q {k n:Int} {s:List UInt8} {ls:List Lv} {ts:List Tm} {kk:Int} (h:j2Z (.mk k n s ls ts) kk=true) (hk:k=1):s=[]∧ls=[]:=by
 simp only [j2Z,if_pos hk,Bool.and_eq_true,decide_eq_true_eq] at h
 obtain ⟨-,-,h1,h2⟩:=h
 exact ⟨by simpa using h1,List.eq_nil_of_length_eq_zero h2⟩
theorem j3M {k n:Int} {s:List UInt8} {ls:List Lv} {ts:List Tm} {kk:Int} (h:j2Z (.mk k n s ls ts) kk=true) (hk:4 ≤ k):n=0∧s=[]∧ls=[]:=by
 have e:j0H k=0:=by rw [j0H,if_neg (by omega)]
 simp only [j2Z,if_neg (show ¬ k=1 by omega),if_neg (show ¬ k=3 by omega),Bool.and_eq_true,decide_eq_true_eq,e] at h
 obtain ⟨h0,h1,h2⟩:=h
 exact ⟨h0,by simpa using h1,List.eq_nil_of_length_eq_zero (by omega)⟩
theorem j4S {k n:Int} {s:List UInt8} {ls:List Lv} {ts:List Tm} {p kk:Int} (h:allT (.mk k n s ls ts) p kk=true):(k < 4→ts=[])∧(4 ≤ k→ts.length ≠ 0):=by
 obtain ⟨hk,hl,-⟩:=j0r h
 constructor
 ·intro h4
  rw [j0T,if_neg (by omega),if_neg (by omega)] at hl
  exact List.eq_nil_of_length_eq_zero (by omega)
 ·intro h4
  rw [j0T] at hl
  split at hl
  ·omega
  ·rw [if_pos (by omega)] at hl
   omega
theorem jbr (b i d:Int):j0m b i (d + 1)=j0m b i d + 1:=by
 unfold j0m
 split <;> omega
theorem j4T (b i d e:Int):j0m b i (d + e)=j0m b i d + e:=by
 unfold j0m
 split <;> omega
theorem jkr (ns:List (List UInt8)) (c:List UInt8):(ns ++ [c]).getD ns.length []=c:=by simp [List.getD_eq_getElem?_getD]
theorem jhL (ns:List (List UInt8)) (c:List UInt8) {i:Nat} (h:i < ns.length):(ns ++ [c]).getD i []=ns.getD i []:=by simp [List.getD_eq_getElem?_getD,List.getElem?_append_left h]
theorem getD_in (ns:List (List UInt8)) {i:Nat} (h:i < ns.length):ns.getD i [] ∈ ns:=by
 rw [List.getD_eq_getElem?_getD,List.getElem?_eq_getElem h]
 exact List.getElem_mem h
theorem jqq {c s:List UInt8} {d:Int} (h:s ≠ c):abF c (cn s) d=none:=by
 unfold abF movF cn
 simp [Tm.kind,Tm.name,h]
theorem je3 {c s:List UInt8} {d:Int} (h:s ≠ c):plF (abF c) (cn s) d=cn s:=by
 rw [cn,plF]
 exact j1d (jqq h) rfl
theorem jfM {c:List UInt8} {d:Int}:plF (abF c) (cn c) d = .mk 1 d [] [] []:=by
 rw [cn,plF]
 exact j1V (by simp [abF,Tm.kind,Tm.name])
mutual
theorem jqO {ns:List (List UInt8)} {c:List UInt8} (hc:c ∉ ns):∀ (t:Tm) (p kk d:Int),allT t p kk=true→c ∉ j4z t→plF (abF c) (plF (opF (ns ++ [c])) t d) d=plF (opF ns) t (d + 1)
 | .mk k n s ls ts,p,kk,d,ha,hn=>by
  obtain ⟨hk,hl,hnd,-,hts⟩:=j0r ha
  obtain ⟨ha1,ha2⟩:=j4S ha
  rw [j4z,List.mem_append,not_or] at hn
  by_cases h1:k=1
  ·obtain ⟨rfl,rfl⟩:=j3Q hnd h1
   obtain rfl:=ha1 (by omega)
   subst h1
   have hlen:((ns ++ [c]).length:Int)=ns.length + 1:=by simp
   by_cases h2:d ≤ n
   ·by_cases h3:n=d
    ·subst h3
     have e1:opF (ns ++ [c]) (.mk 1 n [] [] []) n=some (cn c):=by
      rw [jcL (t:=.mk 1 n [] [] []) (d:=n) ⟨rfl,Int.le_refl _⟩ (by rw [hlen]; simp only [Tm.num]; omega),hlen]
      simp only [Tm.num]
      rw [show ((ns.length:Int) + 1 - 1 - (n - n)).toNat=ns.length by omega,jkr]
     have e2:opF ns (.mk 1 n [] [] []) (n + 1)=none:=j4q (by simp only [Tm.num]; omega)
     rw [plF,plF,j1V e1,jfM,j1d e2 rfl]
    ·by_cases h4:(ns.length:Int) + 1 ≤ n - d
     ·have e1:opF (ns ++ [c]) (.mk 1 n [] [] []) d=some (.mk 1 (n - (ns.length + 1)) [] [] []):=by
       rw [jbE (t:=.mk 1 n [] [] []) ⟨rfl,h2⟩ (by rw [hlen]; simp only [Tm.num]; omega),hlen]
       rfl
      have e2:opF ns (.mk 1 n [] [] []) (d + 1)=some (.mk 1 (n - ns.length) [] [] []):=jbE ⟨rfl,by simp only [Tm.num]; omega⟩ (by simp only [Tm.num]; omega)
      have e3:abF c (.mk 1 (n - (ns.length + 1)) [] [] []) d=some (.mk 1 (n - (ns.length + 1) + 1) [] [] []):=by
       rw [jcB (by simp only [Tm.kind]; omega),jk1 (t:=.mk 1 _ [] [] []) ⟨rfl,by simp only [Tm.num]; omega⟩]
       rfl
      rw [plF,plF,j1V e1,plF,j1V e2,j1V e3]
      congr 1
      omega
     ·have hq:((ns.length:Int) - (n - d)).toNat < ns.length:=by omega
      have e1:opF (ns ++ [c]) (.mk 1 n [] [] []) d=some (cn (ns.getD ((ns.length:Int) - (n - d)).toNat [])):=by
       rw [jcL (t:=.mk 1 n [] [] []) ⟨rfl,h2⟩ (by rw [hlen]; simp only [Tm.num]; omega),hlen]
       simp only [Tm.num]
       rw [show (ns.length:Int) + 1 - 1 - (n - d)=(ns.length:Int) - (n - d) by omega,jhL ns c hq]
      have e2:opF ns (.mk 1 n [] [] []) (d + 1)=some (cn (ns.getD ((ns.length:Int) - (n - d)).toNat [])):=by
       rw [jcL (t:=.mk 1 n [] [] []) ⟨rfl,by simp only [Tm.num]; omega⟩ (by simp only [Tm.num]; omega)]
       simp only [Tm.num]
       rw [show (ns.length:Int) - 1 - (n - (d + 1))=(ns.length:Int) - (n - d) by omega]
      have hne:ns.getD ((ns.length:Int) - (n - d)).toNat [] ≠ c:=fun e=>hc (e ▸ getD_in ns hq)
      rw [plF,plF,j1V e1,j1V e2,je3 hne]
   ·have e1:∀ m:List (List UInt8),∀ e,d ≤ e→opF m (.mk 1 n [] [] []) e=none:=fun m e he=>j4q (by simp only [Tm.num]; omega)
    have e3:abF c (.mk 1 n [] [] []) d=none:=by
     rw [jcB (by simp only [Tm.kind]; omega)]
     exact j9G (by simp only [Tm.num]; omega)
    rw [plF,plF,j1d (e1 _ d (by omega)) rfl,plF,j1d (e1 _ (d + 1) (by omega)) rfl,j1d e3 rfl]
  ·have e1:∀ m:List (List UInt8),∀ e s ls ts n,opF m (.mk k n s ls ts) e=none:=fun m e s ls ts n=>j4q (fun h=>h1 h.1)
   by_cases h4:4 ≤ k
   ·have e3:∀ ts n,abF c (.mk k n [] [] ts) d=none:=fun ts n=>by
     rw [jcB (by simp only [Tm.kind]; omega)]
     exact j9G (by simp only [Tm.kind]; omega)
    have hne:=ha2 h4
    have ih:=jo0 hc ts k 0 p kk d hts hn.2
    rw [plF,plF,j2P (e1 _ _ _ _ _ _) hne,j2P (e1 _ _ _ _ _ _) hne,plF]
    simp only [Tm.kind]
    rw [j2P (e3 _ _) (by simp only [Tm.args,j3g]; exact hne)]
    simp only [Tm.kind]
    rw [ih]
   ·obtain rfl:=ha1 (by omega)
    have e3:abF c (.mk k n s ls []) d=none:=by
     rw [jcB]
     ·exact j9G (by simp only [Tm.kind]; omega)
     ·simp only [Tm.kind,Tm.name]
      rintro ⟨rfl,rfl⟩
      exact hn.1 (by simp)
    rw [plF,plF,j1d (e1 _ _ _ _ _ _) rfl,j1d (e1 _ _ _ _ _ _) rfl,plF,j1d e3 rfl]
theorem jo0 {ns:List (List UInt8)} {c:List UInt8} (hc:c ∉ ns):∀ (ts:List Tm) (k i p kk d:Int),j0J ts k i p kk=true→c ∉ j2v ts→plFs (abF c) (plFs (opF (ns ++ [c])) ts k i d) k i d=plFs (opF ns) ts k i (d + 1)
 |[],k,i,p,kk,d,ha,hn=>by simp only [plFs]
 |t :: r,k,i,p,kk,d,ha,hn=>by
  simp only [j0J,Bool.and_eq_true] at ha
  rw [j2v,List.mem_append,not_or] at hn
  simp only [plFs]
  rw [jqO hc t p _ _ ha.1 hn.1,jo0 hc r k (i + 1) p kk d ha.2 hn.2,jbr]
end
mutual
theorem jpG:∀ (t:Tm) (p kk d:Int),allT t p kk=true→plF (opF []) t d=t
 | .mk k n s ls ts,p,kk,d,ha=>by
  obtain ⟨hk,hl,hnd,-,hts⟩:=j0r ha
  obtain ⟨ha1,ha2⟩:=j4S ha
  by_cases h1:k=1
  ·obtain ⟨rfl,rfl⟩:=j3Q hnd h1
   obtain rfl:=ha1 (by omega)
   by_cases h2:d ≤ n
   ·have e:opF [] (.mk k n [] [] []) d=some (.mk 1 n [] [] []):=by
     rw [jbE (t:=.mk k n [] [] []) ⟨h1,h2⟩ (by simp only [Tm.num,List.length_nil]; omega)]
     simp [Tm.num]
    rw [plF,j1V e,h1]
   ·have e:opF [] (.mk k n [] [] []) d=none:=j4q (by simp only [Tm.num]; omega)
    rw [plF,j1d e rfl]
  ·have e:opF [] (.mk k n s ls ts) d=none:=j4q (fun h=>h1 h.1)
   by_cases h4:4 ≤ k
   ·obtain ⟨rfl,rfl,rfl⟩:=j3M hnd h4
    rw [plF,j2P e (ha2 h4),jld ts k 0 p kk d hts]
    rfl
   ·obtain rfl:=ha1 (by omega)
    rw [plF,j1d e rfl]
theorem jld:∀ (ts:List Tm) (k i p kk d:Int),j0J ts k i p kk=true→plFs (opF []) ts k i d=ts
 |[],k,i,p,kk,d,ha=>by simp only [plFs]
 |t :: r,k,i,p,kk,d,ha=>by
  simp only [j0J,Bool.and_eq_true] at ha
  simp only [plFs]
  rw [jpG t p _ _ ha.1,jld r k (i + 1) p kk d ha.2]
end
theorem j3L {k n:Int} {s:List UInt8} {ls:List Lv} {ts ts':List Tm} {kk kk':Int} (h:j2Z (.mk k n s ls ts) kk=true) (hk:¬ k=1):j2Z (.mk k n s ls ts') kk'=true:=by
 simp only [j2Z,if_neg hk] at h ⊢
 exact h
theorem j2m {k n:Int} {s:List UInt8} {ls:List Lv} {ts:List Tm} {p kk:Int} (h1:1 ≤ k∧k ≤ 7) (h2:(ts.length:Int)=j0T k) (h3:j2Z (.mk k n s ls ts) kk=true) (h4:j1m ls p=true) (h5:j0J ts k 0 p kk=true):allT (.mk k n s ls ts) p kk=true:=by
 simp [allT,h1,h2,h3,h4,h5]
theorem j5p {m p kk:Int} (h0:0 ≤ m) (h1:m < kk):allT (.mk 1 m [] [] []) p kk=true:=by
 simp [allT,j2Z,j0T,j1m,j0J,h0,h1]
mutual
theorem j9o:∀ (t:Tm) (p kk kk':Int),allT t p kk=true→kk ≤ kk'→allT t p kk'=true
 | .mk k n s ls ts,p,kk,kk',ha,h=>by
  obtain ⟨hk,hl,hnd,hls,hts⟩:=j0r ha
  refine j2m hk hl ?_ hls (jbb ts k 0 p kk kk' hts h)
  by_cases h1:k=1
  ·have:=j1j hnd h1
   obtain ⟨rfl,rfl⟩:=j3Q hnd h1
   simp [j2Z,h1]
   omega
  ·exact j3L hnd h1
theorem jbb:∀ (ts:List Tm) (k i p kk kk':Int),j0J ts k i p kk=true→kk ≤ kk'→j0J ts k i p kk'=true
 |[],k,i,p,kk,kk',ha,h=>by simp [j0J]
 |t :: r,k,i,p,kk,kk',ha,h=>by
  simp only [j0J,Bool.and_eq_true] at ha ⊢
  refine ⟨j9o t p _ _ ha.1 ?_,jbb r k (i + 1) p kk kk' ha.2 h⟩
  unfold j0m
  split <;> omega
end
mutual
theorem jom {ns:List (List UInt8)} (hns:∀ c ∈ ns,j2G c=true):∀ (t:Tm) (p K d:Int),allT t p (K + d + ns.length)=true→0 ≤ K→0 ≤ d→allT (plF (opF ns) t d) p (K + d)=true
 | .mk k n s ls ts,p,K,d,ha,hK,hd=>by
  obtain ⟨hk,hl,hnd,hls,hts⟩:=j0r ha
  obtain ⟨ha1,ha2⟩:=j4S ha
  by_cases h1:k=1
  ·have hv:=j1j hnd h1
   obtain ⟨rfl,rfl⟩:=j3Q hnd h1
   obtain rfl:=ha1 (by omega)
   subst h1
   by_cases h2:d ≤ n
   ·by_cases h3:(ns.length:Int) ≤ n - d
    ·have e:opF ns (.mk 1 n [] [] []) d=some (.mk 1 (n - ns.length) [] [] []):=jbE ⟨rfl,h2⟩ h3
     rw [plF,j1V e]
     exact j5p (by omega) (by omega)
    ·have hq:((ns.length:Int) - 1 - (n - d)).toNat < ns.length:=by omega
     have e:opF ns (.mk 1 n [] [] []) d=some (cn (ns.getD ((ns.length:Int) - 1 - (n - d)).toNat [])):=jcL ⟨rfl,h2⟩ h3
     rw [plF,j1V e,joQ]
     exact hns _ (getD_in ns hq)
   ·have e:opF ns (.mk 1 n [] [] []) d=none:=j4q (by simp only [Tm.num]; omega)
    rw [plF,j1d e rfl]
    exact j5p hv.1 (by omega)
  ·have e:opF ns (.mk k n s ls ts) d=none:=j4q (fun h=>h1 h.1)
   by_cases h4:4 ≤ k
   ·obtain ⟨rfl,rfl,rfl⟩:=j3M hnd h4
    rw [plF,j2P e (ha2 h4)]
    exact j2m hk (by rw [j3g]; exact hl) (j3L hnd h1) hls (jgB hns ts k 0 p K d hts hK hd)
   ·obtain rfl:=ha1 (by omega)
    rw [plF,j1d e rfl]
    exact j2m hk hl (j3L hnd h1) hls (by simp [j0J])
theorem jgB {ns:List (List UInt8)} (hns:∀ c ∈ ns,j2G c=true):∀ (ts:List Tm) (k i p K d:Int),j0J ts k i p (K + d + ns.length)=true→0 ≤ K→0 ≤ d→j0J (plFs (opF ns) ts k i d) k i p (K + d)=true
 |[],k,i,p,K,d,ha,hK,hd=>by simp [plFs,j0J]
 |t :: r,k,i,p,K,d,ha,hK,hd=>by
  simp only [j0J,Bool.and_eq_true] at ha
  simp only [plFs,j0J,Bool.and_eq_true]
  refine ⟨?_,jgB hns r k (i + 1) p K d ha.2 hK hd⟩
  have hi:=j1F (j0j k) i d
  rw [show K + d=d + K by omega,j4T,show j0m (j0j k) i d + K=K + j0m (j0j k) i d by omega]
  refine jom hns t p K _ ?_ hK (by omega)
  have:=ha.1
  rw [show K + d + (ns.length:Int)=d + (K + ns.length) by omega,j4T] at this
  rw [show K + j0m (j0j k) i d + (ns.length:Int)=j0m (j0j k) i d + (K + ns.length) by omega]
  exact this
end
mutual
theorem joh {c:List UInt8}:∀ (t:Tm) (p kk d:Int),allT t p kk=true→0 ≤ d→d ≤ kk→allT (plF (abF c) t d) p (kk + 1)=true
 | .mk k n s ls ts,p,kk,d,ha,hd,hk0=>by
  obtain ⟨hk,hl,hnd,hls,hts⟩:=j0r ha
  obtain ⟨ha1,ha2⟩:=j4S ha
  cases hp:abF c (.mk k n s ls ts) d with
  |some x =>
   rw [plF,j1V hp]
   unfold abF at hp
   split at hp
   ·cases hp
    exact j5p hd (by omega)
   ·unfold movF at hp
    split at hp
    ·rename_i h
     cases hp
     have hv:=j1j hnd h.1
     simp only [Tm.num] at h ⊢
     exact j5p (by omega) (by omega)
    ·cases hp
  |none =>
   by_cases h4:4 ≤ k
   ·obtain ⟨rfl,rfl,rfl⟩:=j3M hnd h4
    rw [plF,j2P hp (ha2 h4)]
    exact j2m hk (by rw [j3g]; exact hl) (j3L hnd (show ¬ k=1 by omega)) hls (jgX ts k 0 p kk d hts hd hk0)
   ·obtain rfl:=ha1 (by omega)
    rw [plF,j1d hp rfl]
    exact j9o _ p kk _ ha (by omega)
theorem jgX {c:List UInt8}:∀ (ts:List Tm) (k i p kk d:Int),j0J ts k i p kk=true→0 ≤ d→d ≤ kk→j0J (plFs (abF c) ts k i d) k i p (kk + 1)=true
 |[],k,i,p,kk,d,ha,hd,hk0=>by simp [plFs,j0J]
 |t :: r,k,i,p,kk,d,ha,hd,hk0=>by
  simp only [j0J,Bool.and_eq_true] at ha
  simp only [plFs,j0J,Bool.and_eq_true]
  have hi:=j1F (j0j k) i d
  refine ⟨?_,jgX r k (i + 1) p kk d ha.2 hd hk0⟩
  rw [jbr]
  refine joh t p _ _ ha.1 (by omega) ?_
  unfold j0m
  split <;> omega
end
theorem jaa:∀ (ts:List Tm) (k i d acc:Int),acc ≤ j3y ts k i d acc
 |[],k,i,d,acc=>by simp [j3y]
 |t :: r,k,i,d,acc=>by
  rw [j3y]
  have:=jaa r k (i + 1) d (max acc (j5M t (j0m (j0j k) i d)))
  omega
mutual
theorem jhR:∀ (t:Tm) (p kk d K:Int),allT t p kk=true→j5M t d ≤ K→allT t p (K + d)=true
 | .mk k n s ls ts,p,kk,d,K,ha,h=>by
  obtain ⟨hk,hl,hnd,hls,hts⟩:=j0r ha
  obtain ⟨ha1,ha2⟩:=j4S ha
  by_cases h1:k=1
  ·have hv:=j1j hnd h1
   obtain ⟨rfl,rfl⟩:=j3Q hnd h1
   obtain rfl:=ha1 (by omega)
   rw [j5M,if_pos h1] at h
   subst h1
   exact j5p hv.1 (by omega)
  ·rw [j5M,if_neg h1] at h
   exact j2m hk hl (j3L hnd h1) hls (j9p ts k 0 p kk d 0 K hts h)
theorem j9p:∀ (ts:List Tm) (k i p kk d acc K:Int),j0J ts k i p kk=true→j3y ts k i d acc ≤ K→j0J ts k i p (K + d)=true
 |[],k,i,p,kk,d,acc,K,ha,h=>by simp [j0J]
 |t :: r,k,i,p,kk,d,acc,K,ha,h=>by
  simp only [j0J,Bool.and_eq_true] at ha ⊢
  rw [j3y] at h
  have h2:=jaa r k (i + 1) d (max acc (j5M t (j0m (j0j k) i d)))
  refine ⟨?_,j9p r k (i + 1) p kk d _ K ha.2 h⟩
  rw [show K + d=d + K by omega,j4T,show j0m (j0j k) i d + K=K + j0m (j0j k) i d by omega]
  exact jhR t p _ _ K ha.1 (by omega)
end
mutual
theorem ji3:∀ (t:Tm) (p d K:Int),allT t p (K + d)=true→0 ≤ K→j5M t d ≤ K
 | .mk k n s ls ts,p,d,K,ha,h=>by
  obtain ⟨hk,hl,hnd,hls,hts⟩:=j0r ha
  by_cases h1:k=1
  ·have hv:=j1j hnd h1
   rw [j5M,if_pos h1]
   omega
  ·rw [j5M,if_neg h1]
   exact jah ts k 0 p d 0 K hts h (by omega)
theorem jah:∀ (ts:List Tm) (k i p d acc K:Int),j0J ts k i p (K + d)=true→0 ≤ K→acc ≤ K→j3y ts k i d acc ≤ K
 |[],k,i,p,d,acc,K,ha,h,hac=>by simpa [j3y] using hac
 |t :: r,k,i,p,d,acc,K,ha,h,hac=>by
  simp only [j0J,Bool.and_eq_true] at ha
  rw [j3y]
  have:=ji3 t p (j0m (j0j k) i d) K (by
   have:=ha.1
   rwa [show K + d=d + K by omega,j4T,show j0m (j0j k) i d + K=K + j0m (j0j k) i d by omega] at this) h
  exact jah r k (i + 1) p d _ K ha.2 h (by omega)
end
mutual
theorem jjv {ns:List (List UInt8)} {c:List UInt8}:∀ (t:Tm) (p kk d:Int),allT t p kk=true→c ∈ j4z (plF (opF ns) t d)→c ∈ j4z t∨c ∈ ns
 | .mk k n s ls ts,p,kk,d,hall,h=>by
  obtain ⟨hk,hl,hnd,hls,hts⟩:=j0r hall
  obtain ⟨ha1,ha2⟩:=j4S hall
  cases hp:opF ns (.mk k n s ls ts) d with
  |some x =>
   rw [plF,j1V hp] at h
   unfold opF at hp
   split at hp
   ·rename_i hc
    cases hp
    split at h
    ·simp [j4z,j2v] at h
    ·rename_i h3
     simp only [cn,j4z,j2v,if_true,List.append_nil,List.mem_singleton] at h
     simp only [Tm.num] at h h3 hc
     have hq:((ns.length:Int) - 1 - (n - d)).toNat < ns.length:=by omega
     right
     rw [h]
     exact getD_in ns hq
   ·cases hp
  |none =>
   by_cases ha:ts.length=0
   ·rw [plF,j1d hp ha] at h
    exact .inl h
   ·have h4:4 ≤ k:=by
     by_cases h4:4 ≤ k
     ·exact h4
     ·rw [ha1 (by omega)] at ha
      exact absurd rfl ha
    rw [plF,j2P hp ha,j4z,if_neg (by simp only [Tm.kind]; omega),List.nil_append] at h
    rw [j4z,if_neg (by omega),List.nil_append]
    exact jba ts k 0 p kk d hts h
theorem jba {ns:List (List UInt8)} {c:List UInt8}:∀ (ts:List Tm) (k i p kk d:Int),j0J ts k i p kk=true→c ∈ j2v (plFs (opF ns) ts k i d)→c ∈ j2v ts∨c ∈ ns
 |[],k,i,p,kk,d,ha,h=>by simp [plFs,j2v] at h
 |t :: r,k,i,p,kk,d,ha,h=>by
  simp only [j0J,Bool.and_eq_true] at ha
  simp only [plFs,j2v,List.mem_append] at h ⊢
  rcases h with h|h
  ·rcases jjv t p _ _ ha.1 h with h|h
   ·exact .inl (.inl h)
   ·exact .inr h
  ·rcases jba r k (i + 1) p kk d ha.2 h with h|h
   ·exact .inl (.inr h)
   ·exact .inr h
end
open Go Go.Am Go.Gw
theorem jnj (b f:Int) (t:Tm) (d:Int) (x:Tm) (h:movF b f t d=some x):sizT x ≤ sizT t:=by
 have:=jgV t
 unfold movF at h
 split at h
 ·cases h
  simp [sizT,j0B,j0c]; omega
 ·cases h
theorem jlC {b f:Int} {t:Tm} {d:Int} {x:Tm} (h:movF b f t d=some x):t.kind=1∧x = .mk 1 (t.num + b) [] [] []:=by
 unfold movF at h
 split at h
 ·rename_i h1
  cases h
  exact ⟨h1.1,rfl⟩
 ·cases h
mutual
theorem jnf {b:Int} (hb:0 ≤ b):∀ (t:Tm) (p kk d:Int),allT t p kk=true→0 ≤ d→d ≤ kk→allT (plF (movF b 0) t d) p (kk + b)=true
 | .mk k n s ls ts,p,kk,d,ha,hd,hk0=>by
  obtain ⟨hk,hl,hnd,hls,hts⟩:=j0r ha
  obtain ⟨ha1,ha2⟩:=j4S ha
  cases hp:movF b 0 (.mk k n s ls ts) d with
  |some x =>
   rw [plF,j1V hp]
   obtain ⟨h1,rfl⟩:=jlC hp
   have hv:=j1j hnd h1
   simp only [Tm.num]
   exact j5p (by omega) (by omega)
  |none =>
   by_cases h4:4 ≤ k
   ·obtain ⟨rfl,rfl,rfl⟩:=j3M hnd h4
    rw [plF,j2P hp (ha2 h4)]
    exact j2m hk (by rw [j3g]; exact hl) (j3L hnd (show ¬ k=1 by omega)) hls (jef hb ts k 0 p kk d hts hd hk0)
   ·obtain rfl:=ha1 (by omega)
    rw [plF,j1d hp rfl]
    exact j9o _ p kk _ ha (by omega)
theorem jef {b:Int} (hb:0 ≤ b):∀ (ts:List Tm) (k i p kk d:Int),j0J ts k i p kk=true→0 ≤ d→d ≤ kk→j0J (plFs (movF b 0) ts k i d) k i p (kk + b)=true
 |[],k,i,p,kk,d,ha,hd,hk0=>by simp [plFs,j0J]
 |t :: r,k,i,p,kk,d,ha,hd,hk0=>by
  simp only [j0J,Bool.and_eq_true] at ha
  simp only [plFs,j0J,Bool.and_eq_true]
  have hi:=j1F (j0j k) i d
  refine ⟨?_,jef hb r k (i + 1) p kk d ha.2 hd hk0⟩
  rw [j4T]
  refine jnf hb t p _ _ ha.1 (by omega) ?_
  unfold j0m
  split <;> omega
end
mutual
theorem jev {p q:Int} (hpq:p ≤ q):∀ l:Lv,allF l p=true→allF l q=true
 | .mk k n ls,h=>by
  simp only [allF,Bool.and_eq_true] at h ⊢
  refine ⟨?_,jaG hpq ls h.2⟩
  have h1:=h.1
  simp only [j8k] at h1 ⊢
  by_cases hw:(ls.length:Int)=jd8 k <;> by_cases k1:k=1 <;> by_cases k2:k=2 <;> simp_all <;> omega
theorem jaG {p q:Int} (hpq:p ≤ q):∀ ls:List Lv,j3A ls p=true→j3A ls q=true
 |[],_=>rfl
 |l :: r,h=>by
  simp only [j3A,Bool.and_eq_true] at h ⊢
  exact ⟨jev hpq l h.1,jaG hpq r h.2⟩
end
theorem j8i {p q:Int} (hpq:p ≤ q) (hq:q ≤ 4):∀ ls:List Lv,j1m ls p=true→j1m ls q=true
 |[],_=>rfl
 |l :: r,h=>by
  simp only [j1m,j0w,Bool.and_eq_true,decide_eq_true_eq] at h ⊢
  obtain ⟨⟨h1,h2,h3,h4⟩,h5⟩:=h
  exact ⟨⟨by omega,hq,h3,jev hpq l h4⟩,j8i hpq hq r h5⟩
mutual
theorem jlP {p q:Int} (hpq:p ≤ q) (hq:q ≤ 4):∀ (t:Tm) (kk:Int),allT t p kk=true→allT t q kk=true
 | .mk k n s ls ts,kk,ha=>by
  obtain ⟨hk,hl,hnd,hls,hts⟩:=j0r ha
  exact j2m hk hl hnd (j8i hpq hq ls hls) (jb5 hpq hq ts k 0 kk hts)
theorem jb5 {p q:Int} (hpq:p ≤ q) (hq:q ≤ 4):∀ (ts:List Tm) (k i kk:Int),j0J ts k i p kk=true→j0J ts k i q kk=true
 |[],k,i,kk,ha=>by simp [j0J]
 |t :: r,k,i,kk,ha=>by
  simp only [j0J,Bool.and_eq_true] at ha ⊢
  exact ⟨jlP hpq hq t _ ha.1,jb5 hpq hq r k (i + 1) kk ha.2⟩
end
theorem j3r {t:Tm} {p kk:Int} (h:j0L t p kk=true):(0 ≤ p∧p ≤ 4)∧0 ≤ kk∧j0x t ≤ 2000∧allT t p (min kk 1125899906842624)=true:=by
 simpa [j0L,and_assoc] using h
def j5H (t:Tm) (by_ from_:Int):Option Tm:=if anyT t=true∧(0 ≤ by_∧by_ ≤ 1048576)∧(0 ≤ from_∧from_ ≤ 1048576) then j2I (movF by_ from_) t else none
theorem jdB (n:Int):Pf C1 158 [iv n] [bv (decide (0 ≤ n) && decide (n ≤ 1048576))]:=by
 refine j00 Tryz.func158 rfl rfl rfl ?_
 repeat' ((conv=>whnf);first|refine gA ?_|refine gB ?_|apply gE<;>intro h|refine j04 rfl ?_)
 all_goals (try (conv=>whnf))
 all_goals simp_all <;> omega
theorem jg1 (t:Tm) (v:PV) (h:TmP t v) (by_ from_:Int):Pf C1 106 [v,iv by_,iv from_] (putV (j5H t by_ from_)):=by
 have hr:=j4u t v h
 have h1:=jdB by_
 have h2:=jdB from_
 have hm:=jdv by_ from_
 by_cases hc:anyT t=true∧(0 ≤ by_∧by_ ≤ 1048576)∧(0 ≤ from_∧from_ ≤ 1048576)
 ·obtain ⟨ha,hb,hf⟩:=hc
  have hd:=j6R by_ from_ (by omega) (by omega) t v h 4 1125899906842624 (j2A ha).2 (by omega) (by have:=j4g ha; omega)
  have e:j5H t by_ from_=j2I (movF by_ from_) t:=if_pos ⟨ha,hb,hf⟩
  rw [e]
  rw [ha] at hr
  rw [decide_eq_true hb.1,decide_eq_true hb.2] at h1
  rw [decide_eq_true hf.1,decide_eq_true hf.2] at h2
  cases he:j2I (movF by_ from_) t with
  |some x =>
   rw [he] at hd
   simp only [putV] at hd ⊢
   obtain ⟨k8,n8,s8,b8,z8,x8,c8,y8,ys8,he8⟩:=j0a x
   rw [he8] at hd ⊢
   obtain ⟨k,nn,s,ls,ts,b,z,xs,c,y,ys,rfl,rfl,-⟩:=h.open
   refine j00 Tryz.func106 rfl rfl rfl ?_
   repeat' ((conv=>whnf);first|apply gF|apply gO|apply gP|refine j04 rfl ?_|refine j01 hr rfl rfl ?_|refine j01 h1 rfl rfl ?_|refine j01 h2 rfl rfl ?_|refine j05 hm (fun _=>?_)|refine j05 hd (fun _=>?_)|apply gK)
   all_goals (try (conv=>whnf))
   all_goals rfl
  |none =>
   rw [he] at hd
   simp only [putV] at hd ⊢
   obtain ⟨k,nn,s,ls,ts,b,z,xs,c,y,ys,rfl,rfl,-⟩:=h.open
   refine j00 Tryz.func106 rfl rfl rfl ?_
   repeat' ((conv=>whnf);first|apply gF|apply gO|apply gP|refine j04 rfl ?_|refine j01 hr rfl rfl ?_|refine j01 h1 rfl rfl ?_|refine j01 h2 rfl rfl ?_|refine j05 hm (fun _=>?_)|refine j05 hd (fun _=>?_)|apply gK)
   all_goals (try (conv=>whnf))
   all_goals rfl
 ·have e:j5H t by_ from_=none:=if_neg hc
  rw [e]
  simp only [putV]
  obtain ⟨k,nn,s,ls,ts,b,z,xs,c,y,ys,rfl,rfl,-⟩:=h.open
  refine j00 Tryz.func106 rfl rfl rfl ?_
  repeat' ((conv=>whnf);first|apply gT|apply gN|refine gC ?_|refine gD ?_|apply gM<;>intro h|apply gO|refine j04 rfl ?_|refine j01 hr rfl rfl ?_|refine j01 h1 rfl rfl ?_|refine j01 h2 rfl rfl ?_|apply gK)
  all_goals (try (conv=>whnf))
  all_goals first
   |rfl
   |exact absurd (by simp_all) hc
end Go.Proofs.YtljnahbgfmflaaaGreatDoor

/-
  Whether a level is at most another one (package level), in the plain machine: the form of a level. No statement of the seat.
-/
import Derived.Test.YtljnahbgfmflaaaGreatDoorZFa
import Derived.Test.YtljnahbgfmflaaaGreatDoorZTw
import Derived.Test.YtljnahbgfmflaaaGreatDoorZUa
set_option linter.unusedVariables false
set_option maxHeartbeats 1000000
set_option maxRecDepth 100000
set_option linter.unusedSimpArgs false
set_option linter.unnecessarySimpa false
namespace Go.Proofs.YtljnahbgfmflaaaGreatDoor
open Go Go.Am Go.Gw
theorem sshr {P:Program} {T:TypeId} {x y:Operand} {i j:Int} {q:Nat} (hq:j=(q:Int)) (hlt:q ≤ 63):j0m P .shr T x y (iv i) (iv j)=some (iv (i / 2 ^ q)):=by
 have h1:¬ j < 0:=by omega
 have h2:min j.toNat IntKind.i64.bits=q:=by simp [IntKind.bits]; omega
 have h3:i.fdiv (2 ^ q)=i / 2 ^ q:=Int.fdiv_eq_ediv_of_nonneg i (Int.le_of_lt (Int.pow_pos (by omega)))
 simp only [j0m,j5S,eqGuard,binOp,Op.shift,if_neg h1,h2,h3]
 rfl
theorem jqW {P:Program} {T:TypeId} {x y:Operand} {i:Int} (h0:0 ≤ i) (h1:i < 64):j0m P .and T x y (iv i) (iv 1)=some (iv (i % 2)):=by
 have h:=jcX ⟨i.toNat,by omega⟩
 simp only [Int.toNat_of_nonneg h0] at h
 have e:((i.toNat % 2:Nat):Int)=i % 2:=by omega
 rw [e] at h
 simp only [j0m,j5S,eqGuard,binOp,ne_eq,not_true_eq_false,if_false,Op.intBits]
 rw [← h]
 rfl
theorem jmX {z:Int} {q:Nat} (h:z / 2 ^ q % 2=0):j3z z q=⟨-1,fun j=>if (j:Int)=q then 0 else -1⟩:=by
 unfold j3z bit; rw [if_pos (by simpa using h)]
theorem jn1 {z:Int} {q:Nat} (h:¬ z / 2 ^ q % 2=0):j3z z q=j1h 0:=by
 unfold j3z bit; rw [if_neg (by simpa using h)]
theorem jow {nn z:Int} {ls:List Lv}:j0F (.mk 2 nn ls) z=j3z z nn:=by simp [j0F,j3b]
theorem jpa {nn z:Int} {ls:List Lv}:j0F (.mk 1 nn ls) z=j1h nn:=by simp [j0F,j3b]
theorem jfS (q:Nat) (hq:q < 4) (zz:Nat) (b:Bool) (xs:List PV) (z:Int) (hz:zz=3∨xs=[]) (hz0:0 ≤ z) (hz1:z < 16):Pf C1 82 [.ag [iv 2,iv q,.sl b zz xs],iv z] [fmV (j3z z q)]:=by
 have hc0:=j3H 0
 obtain rfl|rfl|rfl|rfl:q=0∨q=1∨q=2∨q=3:=by omega
 all_goals
  refine j00 Tryz.func82 rfl rfl rfl ?_
  repeat' ((conv=>whnf);first|apply gT|apply gF|apply gO|refine j01 hc0 rfl rfl ?_)
  all_goals (try (conv=>whnf))
  refine VRes.mk _ (sshr rfl (by omega)) ?_
  skip
  all_goals (try (conv=>whnf))
  refine VRes.mk _ (jqW (jqb hz0) (jpJ hz0 hz1)) ?_
  repeat' ((conv=>whnf);first|apply gE<;>intro h|apply gO|apply gQ|refine j03 rfl ?_)
  all_goals (try (conv=>whnf))
  ·rw [jmX (by assumption)]
   rfl
  ·rw [jn1 (by assumption)]
   rfl
theorem jbv (l:Lv):∀ v,LvP l v→∀ (z:Int),allF l 4=true→j0o l ≤ 100000→0 ≤ z→z < 16→Pf C1 82 [v,iv z] [fmV (j0F l z)]:=by
 induction l using Lv.ind with
 |_ k nn ls ih =>
 intro v h z hall hsz hz0 hz1
 obtain ⟨_,_,_,b,zz,xs,⟨rfl,rfl,rfl⟩,rfl,hz,hxs,hlen,hbd⟩:=h.open
 have hc:=j3H nn
 have hc0:=j3H 0
 by_cases h2:k=2
 ·subst h2
  obtain ⟨h0,h4⟩:=jdu hall rfl
  obtain ⟨q,rfl⟩:=Int.eq_ofNat_of_zero_le h0
  rw [jow]
  exact jfS q (by omega) zz b xs z hz hz0 hz1
 refine j00 Tryz.func82 rfl rfl rfl ?_
 repeat' ((conv=>whnf);first|refine gB ?_|apply gE<;>intro h|apply gO|apply gQ|refine j03 rfl ?_|refine j01 hc rfl rfl ?_)
 all_goals (try (conv=>whnf))
 ·subst h
  rw [jpa]
  rfl
 ·have hk3:k=3:=h
  obtain ⟨x,rfl⟩:=jgx hall h
  have hax:=j1P hall (i:=0) rfl
  have hsx:=j5F hsz (i:=0) rfl
  obtain ⟨v,hv,hl⟩:=hxs.at (i:=0) rfl
  have hr:=ih x (by simp) v hl z hax hsx hz0 hz1
  have hra:=jkE (j0F x z) (jpP (j8H _ z hax) hsx)
  obtain ⟨k1,n1,l1,b1,z1,x1,rfl,rfl,hz1',hxs1,hlen1,hbd1⟩:=hl.open
  refine VIdx.mk _ hv (VOk.mk (j07 rfl hz) ?_)
  repeat' ((conv=>whnf);first|apply gO|refine j03 rfl ?_|refine j01 hr rfl rfl ?_|refine j01 hra rfl rfl ?_)
  all_goals (try (conv=>whnf))
  subst hk3
  rw [jaj]
  rfl
 ·have hk3:¬ k=3:=h
  have k2:¬ k=2:=h2
  have k1:¬ k=1:=by assumption
  obtain ⟨x,y,rfl⟩:=jlA hall k1 k2 h
  have hax:=j1P hall (i:=0) rfl
  have hsx:=j5F hsz (i:=0) rfl
  have hay:=j1P hall (i:=1) rfl
  have hsy:=j5F hsz (i:=1) rfl
  obtain ⟨v,hv,hl⟩:=hxs.at (i:=0) rfl
  obtain ⟨w,hw,hm⟩:=hxs.at (i:=1) rfl
  have hrx:=ih x (by simp) v hl z hax hsx hz0 hz1
  have hry:=ih y (by simp) w hm z hay hsy hz0 hz1
  have hzr:=jmG (j0F y z)
  have hj:=jki (j0F x z) (j0F y z)
  obtain ⟨k1',n1,l1,b1,z1,x1,rfl,rfl,hz1',hxs1,hlen1,hbd1⟩:=hl.open
  obtain ⟨k2',n2,l2,b2,z2,x2,rfl,rfl,hz2',hxs2,hlen2,hbd2⟩:=hm.open
  refine VIdx.mk _ hw (VOk.mk (j07 rfl hz) ?_)
  repeat' ((conv=>whnf);first|apply gF|refine gA ?_|refine gB ?_|apply gE<;>intro h|apply gM<;>intro h|apply gO|apply gQ|refine j03 rfl ?_|refine j01 hry rfl rfl ?_|refine j01 hzr rfl rfl ?_)
  all_goals (try (conv=>whnf))
  ·rename_i h5
   rw [j5A k1 k2 hk3,if_pos ⟨h5,by assumption⟩]
   rfl
  ·refine VIdx.mk _ hv (VOk.mk (j07 rfl hz) ?_)
   repeat' ((conv=>whnf);first|apply gO|apply gP|refine j03 rfl ?_|refine j05 hrx (fun _=>?_)|refine j05 hj (fun _=>?_)|apply gK)
   all_goals (try (conv=>whnf))
   rw [j5A k1 k2 hk3,if_neg (fun e=>by simp_all)]
   rfl
  ·refine VIdx.mk _ hv (VOk.mk (j07 rfl hz) ?_)
   repeat' ((conv=>whnf);first|apply gO|apply gP|refine j03 rfl ?_|refine j05 hrx (fun _=>?_)|refine j05 hj (fun _=>?_)|apply gK)
   all_goals (try (conv=>whnf))
   rw [j5A k1 k2 hk3,if_neg (fun e=>by simp_all)]
   rfl
theorem jcg (x y:Lv) (v w:PV) (hx:LvP x v) (hy:LvP y w):Pf C1 48 [v,w] [bv (leqF x y)]:=by
 have h1:=j2d x v hx 4
 have h2:=j2d y w hy 4
 have hfx:=jbv x v hx
 have hfy:=jbv y w hy
 obtain ⟨k,n,ls,b,z,xs,hxe,rfl,hz,hxs,hlen,hbd⟩:=hx.open
 obtain ⟨k',n',ls',b',z',xs',hye,rfl,hz',hxs',hlen',hbd'⟩:=hy.open
 refine j00 Tryz.func48 rfl rfl rfl ?_
 repeat' ((conv=>whnf);first|apply gT|apply gN|refine gC ?_|refine gD ?_|apply gM<;>intro h|refine j03 rfl ?_|refine j01 h1 rfl rfl ?_|refine j01 h2 rfl rfl ?_)
 all_goals (try (conv=>whnf))
 ·refine j08 (G:=Nat) (fun i=>[(14,iv i)]) (fun i=>_) (fun i=>i ≤ 16∧ja4 x y i=true) (fun i=>16 - i) 0 ⟨by omega,rfl⟩ rfl rfl ?_
  rintro i ⟨hi,ht⟩
  have e2:j0l y 4=true:=h
  rename_i e1
  have hf:=fun (h:i < 16)=>hfx i (j1z e1) (j7u e1) (by omega) (by omega)
  have hg:=fun (h:i < 16)=>hfy i (j1z e2) (j7u e2) (by omega) (by omega)
  have hb:=jlT (j0F x i) (j0F y i) (jpP (j8H _ i (j1z e2)) (j7u e2))
  repeat' ((conv=>whnf);first|apply gN|apply gE<;>intro h|apply gM<;>intro h|apply gO|apply gP|refine gV ?_|refine j03 rfl ?_|refine j05 (hf (by omega)) (fun _=>?_)|refine j05 (hg (by omega)) (fun _=>?_)|refine j05 hb (fun _=>?_)|apply gK)
  all_goals (try (conv=>whnf))
  ·have hb1:=h
   refine VAgain.mk _ rfl _ (j0h rfl rfl rfl) ⟨i + 1,⟨by omega,?_⟩,by omega,rfl⟩
   simp [ja4,ht,hb1]
  ·have hb1:=h
   rw [leqF,e1,e2,jfw (i:=i) (by omega) hb1]
   rfl
  ·have hb1:=h
   obtain rfl:i=16:=by omega
   rw [leqF,e1,e2,ht]
   rfl
 ·simp_all [leqF]
 ·simp_all [leqF]
theorem jl7 (k:Int):Pf C1 38 [iv k] [.ag [iv 1,iv k,.sl true 0 []]]:=by
 refine j00 Tryz.func38 rfl rfl rfl ?_
 repeat' ((conv=>whnf);first|apply gO|refine j03 rfl ?_)
 all_goals (try (conv=>whnf))
 rfl
open Go Go.Am Go.Gw
def cn (s:List UInt8):Tm:=.mk 3 0 s [] []
def plN (put:Tm→Int→Option Tm) (t:Tm) (d:Int) (r:List Tm):Tm:=match put t d with
 |some x=>x
 |none=>if t.args.length=0 then t else .mk t.kind 0 [] [] r
mutual
def plF (put:Tm→Int→Option Tm):Tm→Int→Tm
 | .mk k n s ls ts,d=>plN put (.mk k n s ls ts) d (plFs put ts k 0 d)
def plFs (put:Tm→Int→Option Tm):List Tm→Int→Int→Int→List Tm
 |[],_,_,_=>[]
 |t :: r,k,i,d=>plF put t (j0n (j0i k) i d) :: plFs put r k (i + 1) d
end
section
variable {put:Tm→Int→Option Tm} {t x:Tm} {d:Int} {r:List Tm}
theorem j2c (h:put t d=some x):plN put t d r=x:=by rw [plN,h]
theorem j1e (h:put t d=none) (ha:t.args.length=0):plN put t d r=t:=by rw [plN,h]; exact if_pos ha
theorem j2Y (h:put t d=none) (ha:¬ t.args.length=0):plN put t d r = .mk t.kind 0 [] [] r:=by rw [plN,h]; exact if_neg ha
end
theorem j3p (put:Tm→Int→Option Tm):∀ (ts:List Tm) (k i d:Int),(plFs put ts k i d).length=ts.length
 |[],k,i,d=>by simp [plFs]
 |t :: r,k,i,d=>by simp only [plFs,List.length_cons,j3p put r]
mutual
theorem jjJ {put:Tm→Int→Option Tm} (hs:∀ t d x,put t d=some x→sizT x ≤ sizT t):∀ (t:Tm) (d left:Int),(sizT t:Int) ≤ left→sizT t ≤ 2000→(bldF put t d left).1=plF put t d∧left - sizT t ≤ (bldF put t d left).2∧sizT (plF put t d) ≤ sizT t
 | .mk k n s ls ts,d,left,h1,h2=>by
  rw [bldF,plF]
  have hp1:1 + j0E ts ≤ sizT (.mk k n s ls ts):=by rw [sizT]; omega
  cases hp:put (.mk k n s ls ts) d with
  |some x =>
   have:=hs _ _ _ hp
   have hx:=j2f x
   rw [j4u (by omega) hp,j2c hp]
   refine ⟨rfl,?_,this⟩
   dsimp only
   omega
  |none =>
   by_cases ha:ts.length=0
   ·have hx:=j2f (.mk k n s ls ts)
    rw [j3k (by omega) hp ha,j1e hp ha]
    refine ⟨rfl,?_,Nat.le_refl _⟩
    dsimp only
    omega
   ·rw [j3n (by omega) hp ha,j2Y hp ha]
    have ih:=jgU hs ts k 0 d (left - 1) (by omega) (by omega)
    refine ⟨by dsimp only; rw [ih.1],by dsimp only; omega,?_⟩
    rw [sizT,j0b]
    omega
theorem jgU {put:Tm→Int→Option Tm} (hs:∀ t d x,put t d=some x→sizT x ≤ sizT t):∀ (ts:List Tm) (k i d left:Int),(j0E ts:Int) ≤ left→j0E ts ≤ 2000→(j1i put ts k i d left).1=plFs put ts k i d∧left - j0E ts ≤ (j1i put ts k i d left).2∧j0E (plFs put ts k i d) ≤ j0E ts
 |[],k,i,d,left,h1,h2=>by simp [j1i,plFs,j0E] at *
 |t :: r,k,i,d,left,h1,h2=>by
  rw [j0E] at h1 h2
  simp only [j1i,plFs,j0E]
  have a:=jjJ hs t (j0n (j0i k) i d) left (by omega) (by omega)
  have b:=jgU hs r k (i + 1) d (bldF put t (j0n (j0i k) i d) left).2 (by omega) (by omega)
  refine ⟨?_,by omega,by omega⟩
  rw [a.1,b.1]
end
theorem jnL {put:Tm→Int→Option Tm} (hs:∀ t d x,put t d=some x→sizT x ≤ sizT t) {t:Tm} (h:sizT t ≤ 2000):j2L put t=some (plF put t 0):=by
 have a:=jjJ hs t 0 2000 (by omega) h
 unfold j2L
 rw [if_neg (by omega),a.1]
theorem jpA {t:Tm} (h:anyT t=true):sizT t ≤ 2000:=by
 have:=(j2D h).1
 rw [j2f] at this
 omega
theorem jpE (s:List UInt8) (p kk:Int):allT (cn s) p kk=j2P s:=by
 simp [cn,allT,j3g,j1b,j1o,j0L]
def opF (ns:List (List UInt8)) (t:Tm) (d:Int):Option Tm:=if t.kind=1∧d ≤ t.num then some (if (ns.length:Int) ≤ t.num - d then .mk 1 (t.num - ns.length) [] [] [] else cn (ns.getD ((ns.length:Int) - 1 - (t.num - d)).toNat [])) else none
theorem j4F {ns:List (List UInt8)} {t:Tm} {d:Int} (h:¬ (t.kind=1∧d ≤ t.num)):opF ns t d=none:=if_neg h
theorem jcn {ns:List (List UInt8)} {t:Tm} {d:Int} (h:t.kind=1∧d ≤ t.num) (h2:(ns.length:Int) ≤ t.num - d):opF ns t d=some (.mk 1 (t.num - ns.length) [] [] []):=by
 unfold opF
 rw [if_pos h,if_pos h2]
theorem jc9 {ns:List (List UInt8)} {t:Tm} {d:Int} (h:t.kind=1∧d ≤ t.num) (h2:¬ (ns.length:Int) ≤ t.num - d):opF ns t d=some (cn (ns.getD ((ns.length:Int) - 1 - (t.num - d)).toNat [])):=by
 unfold opF
 rw [if_pos h,if_neg h2]
theorem jl8 {b f d:Int} {t:Tm} (h:t.kind=1∧¬ t.num < f + d):movF b f t d=some (.mk 1 (t.num + b) [] [] []):=if_pos h
theorem jad {b f d:Int} {t:Tm} (h:¬ (t.kind=1∧¬ t.num < f + d)):movF b f t d=none:=if_neg h
theorem jgp (t:Tm):1 ≤ sizT t:=by
 obtain ⟨k,n,s,ls,ts⟩:=t
 rw [sizT]
 omega
def abF (c:List UInt8) (t:Tm) (d:Int):Option Tm:=if t.kind=3∧t.name=c then some (.mk 1 d [] [] []) else movF 1 0 t d
theorem jch {c:List UInt8} {t:Tm} {d:Int} (h:¬ (t.kind=3∧t.name=c)):abF c t d=movF 1 0 t d:=if_neg h
mutual
def j4P:Tm→List (List UInt8)
 | .mk k _ s _ ts=>(if k=3 then [s] else []) ++ j2x ts
def j2x:List Tm→List (List UInt8)
 |[]=>[]
 |t :: r=>j4P t ++ j2x r
end
theorem j3T {k n:Int} {s:List UInt8} {ls:List Lv} {ts:List Tm} {kk:Int} (h:j3g (.mk k n s ls ts) kk=true) (hk:k=1):s=[]∧ls=[]:=by
 simp only [j3g,if_pos hk,Bool.and_eq_true,decide_eq_true_eq] at h
 obtain ⟨-,-,h1,h2⟩:=h
 exact ⟨by simpa using h1,List.eq_nil_of_length_eq_zero h2⟩
theorem j3X {k n:Int} {s:List UInt8} {ls:List Lv} {ts:List Tm} {kk:Int} (h:j3g (.mk k n s ls ts) kk=true) (hk:4 ≤ k):n=0∧s=[]∧ls=[]:=by
 have e:j0M k=0:=by rw [j0M,if_neg (by omega)]
 simp only [j3g,if_neg (show ¬ k=1 by omega),if_neg (show ¬ k=3 by omega),Bool.and_eq_true,decide_eq_true_eq,e] at h
 obtain ⟨h0,h1,h2⟩:=h
 exact ⟨h0,by simpa using h1,List.eq_nil_of_length_eq_zero (by omega)⟩
theorem j5c {k n:Int} {s:List UInt8} {ls:List Lv} {ts:List Tm} {p kk:Int} (h:allT (.mk k n s ls ts) p kk=true):(k < 4→ts=[])∧(4 ≤ k→ts.length ≠ 0):=by
 obtain ⟨hk,hl,-⟩:=j0t h
 constructor
 ·intro h4
  rw [j1b,if_neg (by omega),if_neg (by omega)] at hl
  exact List.eq_nil_of_length_eq_zero (by omega)
 ·intro h4
  rw [j1b] at hl
  split at hl
  ·omega
  ·rw [if_pos (by omega)] at hl
   omega
theorem jaP (b i d:Int):j0n b i (d + 1)=j0n b i d + 1:=by
 unfold j0n
 split <;> omega
theorem j4Z (b i d e:Int):j0n b i (d + e)=j0n b i d + e:=by
 unfold j0n
 split <;> omega
theorem jkc (ns:List (List UInt8)) (c:List UInt8):(ns ++ [c]).getD ns.length []=c:=by simp [List.getD_eq_getElem?_getD]
theorem jiB (ns:List (List UInt8)) (c:List UInt8) {i:Nat} (h:i < ns.length):(ns ++ [c]).getD i []=ns.getD i []:=by simp [List.getD_eq_getElem?_getD,List.getElem?_append_left h]
theorem getD_in (ns:List (List UInt8)) {i:Nat} (h:i < ns.length):ns.getD i [] ∈ ns:=by
 rw [List.getD_eq_getElem?_getD,List.getElem?_eq_getElem h]
 exact List.getElem_mem h
theorem jqE {c s:List UInt8} {d:Int} (h:s ≠ c):abF c (cn s) d=none:=by
 unfold abF movF cn
 simp [Tm.kind,Tm.name,h]
theorem jdv {c s:List UInt8} {d:Int} (h:s ≠ c):plF (abF c) (cn s) d=cn s:=by
 rw [cn,plF]
 exact j1e (jqE h) rfl
theorem jf7 {c:List UInt8} {d:Int}:plF (abF c) (cn c) d = .mk 1 d [] [] []:=by
 rw [cn,plF]
 exact j2c (by simp [abF,Tm.kind,Tm.name])
mutual
theorem jqN {ns:List (List UInt8)} {c:List UInt8} (hc:c ∉ ns):∀ (t:Tm) (p kk d:Int),allT t p kk=true→c ∉ j4P t→plF (abF c) (plF (opF (ns ++ [c])) t d) d=plF (opF ns) t (d + 1)
 | .mk k n s ls ts,p,kk,d,ha,hn=>by
  obtain ⟨hk,hl,hnd,-,hts⟩:=j0t ha
  obtain ⟨ha1,ha2⟩:=j5c ha
  rw [j4P,List.mem_append,not_or] at hn
  by_cases h1:k=1
  ·obtain ⟨rfl,rfl⟩:=j3T hnd h1
   obtain rfl:=ha1 (by omega)
   subst h1
   have hlen:((ns ++ [c]).length:Int)=ns.length + 1:=by simp
   by_cases h2:d ≤ n
   ·by_cases h3:n=d
    ·subst h3
     have e1:opF (ns ++ [c]) (.mk 1 n [] [] []) n=some (cn c):=by
      rw [jc9 (t:=.mk 1 n [] [] []) (d:=n) ⟨rfl,Int.le_refl _⟩ (by rw [hlen]; simp only [Tm.num]; omega),hlen]
      simp only [Tm.num]
      rw [show ((ns.length:Int) + 1 - 1 - (n - n)).toNat=ns.length by omega,jkc]
     have e2:opF ns (.mk 1 n [] [] []) (n + 1)=none:=j4F (by simp only [Tm.num]; omega)
     rw [plF,plF,j2c e1,jf7,j1e e2 rfl]
    ·by_cases h4:(ns.length:Int) + 1 ≤ n - d
     ·have e1:opF (ns ++ [c]) (.mk 1 n [] [] []) d=some (.mk 1 (n - (ns.length + 1)) [] [] []):=by
       rw [jcn (t:=.mk 1 n [] [] []) ⟨rfl,h2⟩ (by rw [hlen]; simp only [Tm.num]; omega),hlen]
       rfl
      have e2:opF ns (.mk 1 n [] [] []) (d + 1)=some (.mk 1 (n - ns.length) [] [] []):=jcn ⟨rfl,by simp only [Tm.num]; omega⟩ (by simp only [Tm.num]; omega)
      have e3:abF c (.mk 1 (n - (ns.length + 1)) [] [] []) d=some (.mk 1 (n - (ns.length + 1) + 1) [] [] []):=by
       rw [jch (by simp only [Tm.kind]; omega),jl8 (t:=.mk 1 _ [] [] []) ⟨rfl,by simp only [Tm.num]; omega⟩]
       rfl
      rw [plF,plF,j2c e1,plF,j2c e2,j2c e3]
      congr 1
      omega
     ·have hq:((ns.length:Int) - (n - d)).toNat < ns.length:=by omega
      have e1:opF (ns ++ [c]) (.mk 1 n [] [] []) d=some (cn (ns.getD ((ns.length:Int) - (n - d)).toNat [])):=by
       rw [jc9 (t:=.mk 1 n [] [] []) ⟨rfl,h2⟩ (by rw [hlen]; simp only [Tm.num]; omega),hlen]
       simp only [Tm.num]
       rw [show (ns.length:Int) + 1 - 1 - (n - d)=(ns.length:Int) - (n - d) by omega,jiB ns c hq]
      have e2:opF ns (.mk 1 n [] [] []) (d + 1)=some (cn (ns.getD ((ns.length:Int) - (n - d)).toNat [])):=by
       rw [jc9 (t:=.mk 1 n [] [] []) ⟨rfl,by simp only [Tm.num]; omega⟩ (by simp only [Tm.num]; omega)]
       simp only [Tm.num]
       rw [show (ns.length:Int) - 1 - (n - (d + 1))=(ns.length:Int) - (n - d) by omega]
      have hne:ns.getD ((ns.length:Int) - (n - d)).toNat [] ≠ c:=fun e=>hc (e ▸ getD_in ns hq)
      rw [plF,plF,j2c e1,j2c e2,jdv hne]
   ·have e1:∀ m:List (List UInt8),∀ e,d ≤ e→opF m (.mk 1 n [] [] []) e=none:=fun m e he=>j4F (by simp only [Tm.num]; omega)
    have e3:abF c (.mk 1 n [] [] []) d=none:=by
     rw [jch (by simp only [Tm.kind]; omega)]
     exact jad (by simp only [Tm.num]; omega)
    rw [plF,plF,j1e (e1 _ d (by omega)) rfl,plF,j1e (e1 _ (d + 1) (by omega)) rfl,j1e e3 rfl]
  ·have e1:∀ m:List (List UInt8),∀ e s ls ts n,opF m (.mk k n s ls ts) e=none:=fun m e s ls ts n=>j4F (fun h=>h1 h.1)
   by_cases h4:4 ≤ k
   ·have e3:∀ ts n,abF c (.mk k n [] [] ts) d=none:=fun ts n=>by
     rw [jch (by simp only [Tm.kind]; omega)]
     exact jad (by simp only [Tm.kind]; omega)
    have hne:=ha2 h4
    have ih:=jo4 hc ts k 0 p kk d hts hn.2
    rw [plF,plF,j2Y (e1 _ _ _ _ _ _) hne,j2Y (e1 _ _ _ _ _ _) hne,plF]
    simp only [Tm.kind]
    rw [j2Y (e3 _ _) (by simp only [Tm.args,j3p]; exact hne)]
    simp only [Tm.kind]
    rw [ih]
   ·obtain rfl:=ha1 (by omega)
    have e3:abF c (.mk k n s ls []) d=none:=by
     rw [jch]
     ·exact jad (by simp only [Tm.kind]; omega)
     ·simp only [Tm.kind,Tm.name]
      rintro ⟨rfl,rfl⟩
      exact hn.1 (by simp)
    rw [plF,plF,j1e (e1 _ _ _ _ _ _) rfl,j1e (e1 _ _ _ _ _ _) rfl,plF,j1e e3 rfl]
theorem jo4 {ns:List (List UInt8)} {c:List UInt8} (hc:c ∉ ns):∀ (ts:List Tm) (k i p kk d:Int),j0L ts k i p kk=true→c ∉ j2x ts→plFs (abF c) (plFs (opF (ns ++ [c])) ts k i d) k i d=plFs (opF ns) ts k i (d + 1)
 |[],k,i,p,kk,d,ha,hn=>by simp only [plFs]
 |t :: r,k,i,p,kk,d,ha,hn=>by
  simp only [j0L,Bool.and_eq_true] at ha
  rw [j2x,List.mem_append,not_or] at hn
  simp only [plFs]
  rw [jqN hc t p _ _ ha.1 hn.1,jo4 hc r k (i + 1) p kk d ha.2 hn.2,jaP]
end
mutual
theorem jqi:∀ (t:Tm) (p kk d:Int),allT t p kk=true→plF (opF []) t d=t
 | .mk k n s ls ts,p,kk,d,ha=>by
  obtain ⟨hk,hl,hnd,-,hts⟩:=j0t ha
  obtain ⟨ha1,ha2⟩:=j5c ha
  by_cases h1:k=1
  ·obtain ⟨rfl,rfl⟩:=j3T hnd h1
   obtain rfl:=ha1 (by omega)
   by_cases h2:d ≤ n
   ·have e:opF [] (.mk k n [] [] []) d=some (.mk 1 n [] [] []):=by
     rw [jcn (t:=.mk k n [] [] []) ⟨h1,h2⟩ (by simp only [Tm.num,List.length_nil]; omega)]
     simp [Tm.num]
    rw [plF,j2c e,h1]
   ·have e:opF [] (.mk k n [] [] []) d=none:=j4F (by simp only [Tm.num]; omega)
    rw [plF,j1e e rfl]
  ·have e:opF [] (.mk k n s ls ts) d=none:=j4F (fun h=>h1 h.1)
   by_cases h4:4 ≤ k
   ·obtain ⟨rfl,rfl,rfl⟩:=j3X hnd h4
    rw [plF,j2Y e (ha2 h4),jkk ts k 0 p kk d hts]
    rfl
   ·obtain rfl:=ha1 (by omega)
    rw [plF,j1e e rfl]
theorem jkk:∀ (ts:List Tm) (k i p kk d:Int),j0L ts k i p kk=true→plFs (opF []) ts k i d=ts
 |[],k,i,p,kk,d,ha=>by simp only [plFs]
 |t :: r,k,i,p,kk,d,ha=>by
  simp only [j0L,Bool.and_eq_true] at ha
  simp only [plFs]
  rw [jqi t p _ _ ha.1,jkk r k (i + 1) p kk d ha.2]
end
theorem j3Z {k n:Int} {s:List UInt8} {ls:List Lv} {ts ts':List Tm} {kk kk':Int} (h:j3g (.mk k n s ls ts) kk=true) (hk:¬ k=1):j3g (.mk k n s ls ts') kk'=true:=by
 simp only [j3g,if_neg hk] at h ⊢
 exact h
theorem j2t {k n:Int} {s:List UInt8} {ls:List Lv} {ts:List Tm} {p kk:Int} (h1:1 ≤ k∧k ≤ 7) (h2:(ts.length:Int)=j1b k) (h3:j3g (.mk k n s ls ts) kk=true) (h4:j1o ls p=true) (h5:j0L ts k 0 p kk=true):allT (.mk k n s ls ts) p kk=true:=by
 simp [allT,h1,h2,h3,h4,h5]
theorem j5P {m p kk:Int} (h0:0 ≤ m) (h1:m < kk):allT (.mk 1 m [] [] []) p kk=true:=by
 simp [allT,j3g,j1b,j1o,j0L,h0,h1]
mutual
theorem j8Z:∀ (t:Tm) (p kk kk':Int),allT t p kk=true→kk ≤ kk'→allT t p kk'=true
 | .mk k n s ls ts,p,kk,kk',ha,h=>by
  obtain ⟨hk,hl,hnd,hls,hts⟩:=j0t ha
  refine j2t hk hl ?_ hls (jb5 ts k 0 p kk kk' hts h)
  by_cases h1:k=1
  ·have:=j1l hnd h1
   obtain ⟨rfl,rfl⟩:=j3T hnd h1
   simp [j3g,h1]
   omega
  ·exact j3Z hnd h1
theorem jb5:∀ (ts:List Tm) (k i p kk kk':Int),j0L ts k i p kk=true→kk ≤ kk'→j0L ts k i p kk'=true
 |[],k,i,p,kk,kk',ha,h=>by simp [j0L]
 |t :: r,k,i,p,kk,kk',ha,h=>by
  simp only [j0L,Bool.and_eq_true] at ha ⊢
  refine ⟨j8Z t p _ _ ha.1 ?_,jb5 r k (i + 1) p kk kk' ha.2 h⟩
  unfold j0n
  split <;> omega
end
mutual
theorem jou {ns:List (List UInt8)} (hns:∀ c ∈ ns,j2P c=true):∀ (t:Tm) (p K d:Int),allT t p (K + d + ns.length)=true→0 ≤ K→0 ≤ d→allT (plF (opF ns) t d) p (K + d)=true
 | .mk k n s ls ts,p,K,d,ha,hK,hd=>by
  obtain ⟨hk,hl,hnd,hls,hts⟩:=j0t ha
  obtain ⟨ha1,ha2⟩:=j5c ha
  by_cases h1:k=1
  ·have hv:=j1l hnd h1
   obtain ⟨rfl,rfl⟩:=j3T hnd h1
   obtain rfl:=ha1 (by omega)
   subst h1
   by_cases h2:d ≤ n
   ·by_cases h3:(ns.length:Int) ≤ n - d
    ·have e:opF ns (.mk 1 n [] [] []) d=some (.mk 1 (n - ns.length) [] [] []):=jcn ⟨rfl,h2⟩ h3
     rw [plF,j2c e]
     exact j5P (by omega) (by omega)
    ·have hq:((ns.length:Int) - 1 - (n - d)).toNat < ns.length:=by omega
     have e:opF ns (.mk 1 n [] [] []) d=some (cn (ns.getD ((ns.length:Int) - 1 - (n - d)).toNat [])):=jc9 ⟨rfl,h2⟩ h3
     rw [plF,j2c e,jpE]
     exact hns _ (getD_in ns hq)
   ·have e:opF ns (.mk 1 n [] [] []) d=none:=j4F (by simp only [Tm.num]; omega)
    rw [plF,j1e e rfl]
    exact j5P hv.1 (by omega)
  ·have e:opF ns (.mk k n s ls ts) d=none:=j4F (fun h=>h1 h.1)
   by_cases h4:4 ≤ k
   ·obtain ⟨rfl,rfl,rfl⟩:=j3X hnd h4
    rw [plF,j2Y e (ha2 h4)]
    exact j2t hk (by rw [j3p]; exact hl) (j3Z hnd h1) hls (jhg hns ts k 0 p K d hts hK hd)
   ·obtain rfl:=ha1 (by omega)
    rw [plF,j1e e rfl]
    exact j2t hk hl (j3Z hnd h1) hls (by simp [j0L])
theorem jhg {ns:List (List UInt8)} (hns:∀ c ∈ ns,j2P c=true):∀ (ts:List Tm) (k i p K d:Int),j0L ts k i p (K + d + ns.length)=true→0 ≤ K→0 ≤ d→j0L (plFs (opF ns) ts k i d) k i p (K + d)=true
 |[],k,i,p,K,d,ha,hK,hd=>by simp [plFs,j0L]
 |t :: r,k,i,p,K,d,ha,hK,hd=>by
  simp only [j0L,Bool.and_eq_true] at ha
  simp only [plFs,j0L,Bool.and_eq_true]
  refine ⟨?_,jhg hns r k (i + 1) p K d ha.2 hK hd⟩
  have hi:=j1I (j0i k) i d
  rw [show K + d=d + K by omega,j4Z,show j0n (j0i k) i d + K=K + j0n (j0i k) i d by omega]
  refine jou hns t p K _ ?_ hK (by omega)
  have:=ha.1
  rw [show K + d + (ns.length:Int)=d + (K + ns.length) by omega,j4Z] at this
  rw [show K + j0n (j0i k) i d + (ns.length:Int)=j0n (j0i k) i d + (K + ns.length) by omega]
  exact this
end
mutual
theorem jos {c:List UInt8}:∀ (t:Tm) (p kk d:Int),allT t p kk=true→0 ≤ d→d ≤ kk→allT (plF (abF c) t d) p (kk + 1)=true
 | .mk k n s ls ts,p,kk,d,ha,hd,hk0=>by
  obtain ⟨hk,hl,hnd,hls,hts⟩:=j0t ha
  obtain ⟨ha1,ha2⟩:=j5c ha
  cases hp:abF c (.mk k n s ls ts) d with
  |some x =>
   rw [plF,j2c hp]
   unfold abF at hp
   split at hp
   ·cases hp
    exact j5P hd (by omega)
   ·unfold movF at hp
    split at hp
    ·rename_i h
     cases hp
     have hv:=j1l hnd h.1
     simp only [Tm.num] at h ⊢
     exact j5P (by omega) (by omega)
    ·cases hp
  |none =>
   by_cases h4:4 ≤ k
   ·obtain ⟨rfl,rfl,rfl⟩:=j3X hnd h4
    rw [plF,j2Y hp (ha2 h4)]
    exact j2t hk (by rw [j3p]; exact hl) (j3Z hnd (show ¬ k=1 by omega)) hls (jh9 ts k 0 p kk d hts hd hk0)
   ·obtain rfl:=ha1 (by omega)
    rw [plF,j1e hp rfl]
    exact j8Z _ p kk _ ha (by omega)
theorem jh9 {c:List UInt8}:∀ (ts:List Tm) (k i p kk d:Int),j0L ts k i p kk=true→0 ≤ d→d ≤ kk→j0L (plFs (abF c) ts k i d) k i p (kk + 1)=true
 |[],k,i,p,kk,d,ha,hd,hk0=>by simp [plFs,j0L]
 |t :: r,k,i,p,kk,d,ha,hd,hk0=>by
  simp only [j0L,Bool.and_eq_true] at ha
  simp only [plFs,j0L,Bool.and_eq_true]
  have hi:=j1I (j0i k) i d
  refine ⟨?_,jh9 r k (i + 1) p kk d ha.2 hd hk0⟩
  rw [jaP]
  refine jos t p _ _ ha.1 (by omega) ?_
  unfold j0n
  split <;> omega
end
theorem j9L:∀ (ts:List Tm) (k i d acc:Int),acc ≤ j3N ts k i d acc
 |[],k,i,d,acc=>by simp [j3N]
 |t :: r,k,i,d,acc=>by
  rw [j3N]
  have:=j9L r k (i + 1) d (max acc (j6a t (j0n (j0i k) i d)))
  omega
mutual
theorem ji5:∀ (t:Tm) (p kk d K:Int),allT t p kk=true→j6a t d ≤ K→allT t p (K + d)=true
 | .mk k n s ls ts,p,kk,d,K,ha,h=>by
  obtain ⟨hk,hl,hnd,hls,hts⟩:=j0t ha
  obtain ⟨ha1,ha2⟩:=j5c ha
  by_cases h1:k=1
  ·have hv:=j1l hnd h1
   obtain ⟨rfl,rfl⟩:=j3T hnd h1
   obtain rfl:=ha1 (by omega)
   rw [j6a,if_pos h1] at h
   subst h1
   exact j5P hv.1 (by omega)
  ·rw [j6a,if_neg h1] at h
   exact j2t hk hl (j3Z hnd h1) hls (j9y ts k 0 p kk d 0 K hts h)
theorem j9y:∀ (ts:List Tm) (k i p kk d acc K:Int),j0L ts k i p kk=true→j3N ts k i d acc ≤ K→j0L ts k i p (K + d)=true
 |[],k,i,p,kk,d,acc,K,ha,h=>by simp [j0L]
 |t :: r,k,i,p,kk,d,acc,K,ha,h=>by
  simp only [j0L,Bool.and_eq_true] at ha ⊢
  rw [j3N] at h
  have h2:=j9L r k (i + 1) d (max acc (j6a t (j0n (j0i k) i d)))
  refine ⟨?_,j9y r k (i + 1) p kk d _ K ha.2 h⟩
  rw [show K + d=d + K by omega,j4Z,show j0n (j0i k) i d + K=K + j0n (j0i k) i d by omega]
  exact ji5 t p _ _ K ha.1 (by omega)
end
mutual
theorem jiG:∀ (t:Tm) (p d K:Int),allT t p (K + d)=true→0 ≤ K→j6a t d ≤ K
 | .mk k n s ls ts,p,d,K,ha,h=>by
  obtain ⟨hk,hl,hnd,hls,hts⟩:=j0t ha
  by_cases h1:k=1
  ·have hv:=j1l hnd h1
   rw [j6a,if_pos h1]
   omega
  ·rw [j6a,if_neg h1]
   exact j9d ts k 0 p d 0 K hts h (by omega)
theorem j9d:∀ (ts:List Tm) (k i p d acc K:Int),j0L ts k i p (K + d)=true→0 ≤ K→acc ≤ K→j3N ts k i d acc ≤ K
 |[],k,i,p,d,acc,K,ha,h,hac=>by simpa [j3N] using hac
 |t :: r,k,i,p,d,acc,K,ha,h,hac=>by
  simp only [j0L,Bool.and_eq_true] at ha
  rw [j3N]
  have:=jiG t p (j0n (j0i k) i d) K (by
   have:=ha.1
   rwa [show K + d=d + K by omega,j4Z,show j0n (j0i k) i d + K=K + j0n (j0i k) i d by omega] at this) h
  exact j9d r k (i + 1) p d _ K ha.2 h (by omega)
end
mutual
theorem jm1 {ns:List (List UInt8)} {c:List UInt8}:∀ (t:Tm) (p kk d:Int),allT t p kk=true→c ∈ j4P (plF (opF ns) t d)→c ∈ j4P t∨c ∈ ns
 | .mk k n s ls ts,p,kk,d,hall,h=>by
  obtain ⟨hk,hl,hnd,hls,hts⟩:=j0t hall
  obtain ⟨ha1,ha2⟩:=j5c hall
  cases hp:opF ns (.mk k n s ls ts) d with
  |some x =>
   rw [plF,j2c hp] at h
   unfold opF at hp
   split at hp
   ·rename_i hc
    cases hp
    split at h
    ·simp [j4P,j2x] at h
    ·rename_i h3
     simp only [cn,j4P,j2x,if_true,List.append_nil,List.mem_singleton] at h
     simp only [Tm.num] at h h3 hc
     have hq:((ns.length:Int) - 1 - (n - d)).toNat < ns.length:=by omega
     right
     rw [h]
     exact getD_in ns hq
   ·cases hp
  |none =>
   by_cases ha:ts.length=0
   ·rw [plF,j1e hp ha] at h
    exact .inl h
   ·have h4:4 ≤ k:=by
     by_cases h4:4 ≤ k
     ·exact h4
     ·rw [ha1 (by omega)] at ha
      exact absurd rfl ha
    rw [plF,j2Y hp ha,j4P,if_neg (by simp only [Tm.kind]; omega),List.nil_append] at h
    rw [j4P,if_neg (by omega),List.nil_append]
    exact jb2 ts k 0 p kk d hts h
theorem jb2 {ns:List (List UInt8)} {c:List UInt8}:∀ (ts:List Tm) (k i p kk d:Int),j0L ts k i p kk=true→c ∈ j2x (plFs (opF ns) ts k i d)→c ∈ j2x ts∨c ∈ ns
 |[],k,i,p,kk,d,ha,h=>by simp [plFs,j2x] at h
 |t :: r,k,i,p,kk,d,ha,h=>by
  simp only [j0L,Bool.and_eq_true] at ha
  simp only [plFs,j2x,List.mem_append] at h ⊢
  rcases h with h|h
  ·rcases jm1 t p _ _ ha.1 h with h|h
   ·exact .inl (.inl h)
   ·exact .inr h
  ·rcases jb2 r k (i + 1) p kk d ha.2 h with h|h
   ·exact .inl (.inr h)
   ·exact .inr h
end
open Go Go.Am Go.Gw
theorem jnN (b f:Int) (t:Tm) (d:Int) (x:Tm) (h:movF b f t d=some x):sizT x ≤ sizT t:=by
 have:=jgp t
 unfold movF at h
 split at h
 ·cases h
  simp [sizT,j0E,j0b]; omega
 ·cases h
theorem jlQ {b f:Int} {t:Tm} {d:Int} {x:Tm} (h:movF b f t d=some x):t.kind=1∧x = .mk 1 (t.num + b) [] [] []:=by
 unfold movF at h
 split at h
 ·rename_i h1
  cases h
  exact ⟨h1.1,rfl⟩
 ·cases h
mutual
theorem jmz {b:Int} (hb:0 ≤ b):∀ (t:Tm) (p kk d:Int),allT t p kk=true→0 ≤ d→d ≤ kk→allT (plF (movF b 0) t d) p (kk + b)=true
 | .mk k n s ls ts,p,kk,d,ha,hd,hk0=>by
  obtain ⟨hk,hl,hnd,hls,hts⟩:=j0t ha
  obtain ⟨ha1,ha2⟩:=j5c ha
  cases hp:movF b 0 (.mk k n s ls ts) d with
  |some x =>
   rw [plF,j2c hp]
   obtain ⟨h1,rfl⟩:=jlQ hp
   have hv:=j1l hnd h1
   simp only [Tm.num]
   exact j5P (by omega) (by omega)
  |none =>
   by_cases h4:4 ≤ k
   ·obtain ⟨rfl,rfl,rfl⟩:=j3X hnd h4
    rw [plF,j2Y hp (ha2 h4)]
    exact j2t hk (by rw [j3p]; exact hl) (j3Z hnd (show ¬ k=1 by omega)) hls (je6 hb ts k 0 p kk d hts hd hk0)
   ·obtain rfl:=ha1 (by omega)
    rw [plF,j1e hp rfl]
    exact j8Z _ p kk _ ha (by omega)
theorem je6 {b:Int} (hb:0 ≤ b):∀ (ts:List Tm) (k i p kk d:Int),j0L ts k i p kk=true→0 ≤ d→d ≤ kk→j0L (plFs (movF b 0) ts k i d) k i p (kk + b)=true
 |[],k,i,p,kk,d,ha,hd,hk0=>by simp [plFs,j0L]
 |t :: r,k,i,p,kk,d,ha,hd,hk0=>by
  simp only [j0L,Bool.and_eq_true] at ha
  simp only [plFs,j0L,Bool.and_eq_true]
  have hi:=j1I (j0i k) i d
  refine ⟨?_,je6 hb r k (i + 1) p kk d ha.2 hd hk0⟩
  rw [j4Z]
  refine jmz hb t p _ _ ha.1 (by omega) ?_
  unfold j0n
  split <;> omega
end
mutual
theorem jea {p q:Int} (hpq:p ≤ q):∀ l:Lv,allF l p=true→allF l q=true
 | .mk k n ls,h=>by
  simp only [allF,Bool.and_eq_true] at h ⊢
  refine ⟨?_,jaS hpq ls h.2⟩
  have h1:=h.1
  simp only [j4O] at h1 ⊢
  by_cases hw:(ls.length:Int)=j7p k <;> by_cases k1:k=1 <;> by_cases k2:k=2 <;> simp_all <;> omega
theorem jaS {p q:Int} (hpq:p ≤ q):∀ ls:List Lv,j2j ls p=true→j2j ls q=true
 |[],_=>rfl
 |l :: r,h=>by
  simp only [j2j,Bool.and_eq_true] at h ⊢
  exact ⟨jea hpq l h.1,jaS hpq r h.2⟩
end
theorem j8d {p q:Int} (hpq:p ≤ q) (hq:q ≤ 4):∀ ls:List Lv,j1o ls p=true→j1o ls q=true
 |[],_=>rfl
 |l :: r,h=>by
  simp only [j1o,j0l,Bool.and_eq_true,decide_eq_true_eq] at h ⊢
  obtain ⟨⟨h1,h2,h3,h4⟩,h5⟩:=h
  exact ⟨⟨by omega,hq,h3,jea hpq l h4⟩,j8d hpq hq r h5⟩
mutual
theorem jkH {p q:Int} (hpq:p ≤ q) (hq:q ≤ 4):∀ (t:Tm) (kk:Int),allT t p kk=true→allT t q kk=true
 | .mk k n s ls ts,kk,ha=>by
  obtain ⟨hk,hl,hnd,hls,hts⟩:=j0t ha
  exact j2t hk hl hnd (j8d hpq hq ls hls) (jbl hpq hq ts k 0 kk hts)
theorem jbl {p q:Int} (hpq:p ≤ q) (hq:q ≤ 4):∀ (ts:List Tm) (k i kk:Int),j0L ts k i p kk=true→j0L ts k i q kk=true
 |[],k,i,kk,ha=>by simp [j0L]
 |t :: r,k,i,kk,ha=>by
  simp only [j0L,Bool.and_eq_true] at ha ⊢
  exact ⟨jkH hpq hq t _ ha.1,jbl hpq hq r k (i + 1) kk ha.2⟩
end
theorem j3A {t:Tm} {p kk:Int} (h:j0U t p kk=true):(0 ≤ p∧p ≤ 4)∧0 ≤ kk∧j0C t ≤ 2000∧allT t p (min kk 1125899906842624)=true:=by
 simpa [j0U,and_assoc] using h
def j5V (t:Tm) (by_ from_:Int):Option Tm:=if anyT t=true∧(0 ≤ by_∧by_ ≤ 1048576)∧(0 ≤ from_∧from_ ≤ 1048576) then j2L (movF by_ from_) t else none
theorem jdi (n:Int):Pf C1 158 [iv n] [bv (decide (0 ≤ n) && decide (n ≤ 1048576))]:=by
 refine j00 Tryz.func158 rfl rfl rfl ?_
 repeat' ((conv=>whnf);first|refine gA ?_|refine gB ?_|apply gE<;>intro h|refine j03 rfl ?_)
 all_goals (try (conv=>whnf))
 all_goals simp_all <;> omega
theorem jgq (t:Tm) (v:PV) (h:TmP t v) (by_ from_:Int):Pf C1 106 [v,iv by_,iv from_] (putV (j5V t by_ from_)):=by
 have hr:=j4L t v h
 have h1:=jdi by_
 have h2:=jdi from_
 have hm:=je2 by_ from_
 by_cases hc:anyT t=true∧(0 ≤ by_∧by_ ≤ 1048576)∧(0 ≤ from_∧from_ ≤ 1048576)
 ·obtain ⟨ha,hb,hf⟩:=hc
  have hd:=j7f by_ from_ (by omega) (by omega) t v h 4 1125899906842624 (j2D ha).2 (by omega) (by have:=j4p ha; omega)
  have e:j5V t by_ from_=j2L (movF by_ from_) t:=if_pos ⟨ha,hb,hf⟩
  rw [e]
  rw [ha] at hr
  rw [decide_eq_true hb.1,decide_eq_true hb.2] at h1
  rw [decide_eq_true hf.1,decide_eq_true hf.2] at h2
  cases he:j2L (movF by_ from_) t with
  |some x =>
   rw [he] at hd
   simp only [putV] at hd ⊢
   obtain ⟨k8,n8,s8,b8,z8,x8,c8,y8,ys8,he8⟩:=j0a x
   rw [he8] at hd ⊢
   obtain ⟨k,nn,s,ls,ts,b,z,xs,c,y,ys,rfl,rfl,-⟩:=h.open
   refine j00 Tryz.func106 rfl rfl rfl ?_
   repeat' ((conv=>whnf);first|apply gF|apply gO|apply gP|refine j03 rfl ?_|refine j01 hr rfl rfl ?_|refine j01 h1 rfl rfl ?_|refine j01 h2 rfl rfl ?_|refine j05 hm (fun _=>?_)|refine j05 hd (fun _=>?_)|apply gK)
   all_goals (try (conv=>whnf))
   all_goals rfl
  |none =>
   rw [he] at hd
   simp only [putV] at hd ⊢
   obtain ⟨k,nn,s,ls,ts,b,z,xs,c,y,ys,rfl,rfl,-⟩:=h.open
   refine j00 Tryz.func106 rfl rfl rfl ?_
   repeat' ((conv=>whnf);first|apply gF|apply gO|apply gP|refine j03 rfl ?_|refine j01 hr rfl rfl ?_|refine j01 h1 rfl rfl ?_|refine j01 h2 rfl rfl ?_|refine j05 hm (fun _=>?_)|refine j05 hd (fun _=>?_)|apply gK)
   all_goals (try (conv=>whnf))
   all_goals rfl
 ·have e:j5V t by_ from_=none:=if_neg hc
  rw [e]
  simp only [putV]
  obtain ⟨k,nn,s,ls,ts,b,z,xs,c,y,ys,rfl,rfl,-⟩:=h.open
  refine j00 Tryz.func106 rfl rfl rfl ?_
  repeat' ((conv=>whnf);first|apply gT|apply gN|refine gC ?_|refine gD ?_|apply gM<;>intro h|apply gO|refine j03 rfl ?_|refine j01 hr rfl rfl ?_|refine j01 h1 rfl rfl ?_|refine j01 h2 rfl rfl ?_|apply gK)
  all_goals (try (conv=>whnf))
  all_goals first
   |rfl
   |exact absurd (by simp_all) hc
end Go.Proofs.YtljnahbgfmflaaaGreatDoor

/-
  Plain laws of levels: what a form tells, when one level is at most another. No program in sight.
-/
import Derived.Test.YtljnahbgfmflaaaGreatDoorZLv
import Derived.ProofKit
import Derived.OpenShut
import Derived.Carry
import Derived.SizedLaws
import Derived.Deep.Slices
set_option linter.unusedVariables false
set_option linter.unusedSimpArgs false
set_option linter.unnecessarySimpa false
namespace Go.Gw
open Go
def tm (x y:Int):Int:=if x = -1 then -1 else x + y
def evF (f:Fm) (v:Nat→Int):Int:=max f.num (max (tm (f.off 0) (v 0)) (max (tm (f.off 1) (v 1)) (max (tm (f.off 2) (v 2)) (tm (f.off 3) (v 3)))))
theorem jqQ {x y:Int} (hx : -1 ≤ x) (hy:0 ≤ y) : -1 ≤ tm x y:=by unfold tm; split <;> omega
theorem joC {a b y:Int} (ha : -1 ≤ a) (hb : -1 ≤ b) (hy:0 ≤ y):tm (max a b) y=max (tm a y) (tm b y):=by
 unfold tm
 by_cases h1:a = -1 <;> by_cases h2:b = -1
 ·rw [if_pos (by omega),if_pos h1,if_pos h2]; omega
 ·rw [if_neg (by omega),if_pos h1,if_neg h2]; omega
 ·rw [if_neg (by omega),if_neg h1,if_pos h2]; omega
 ·rw [if_neg (by omega),if_neg h1,if_neg h2]; omega
theorem joM {a y:Int} (ha : -1 ≤ a) (hy:0 ≤ y):tm (rise a) y=rise (tm a y):=by
 unfold tm rise
 by_cases h1:a = -1
 ·simp [h1]
 ·rw [if_neg h1,if_neg h1,if_neg (by omega),if_neg (by omega)]; omega
def Fm.low (f:Fm):Prop:=-1 ≤ f.num∧∀ j,-1 ≤ f.off j
theorem j4N {f:Fm} {v:Nat→Int} {x:Int}:evF f v ≤ x↔f.num ≤ x∧∀ j,j < 4→tm (f.off j) (v j) ≤ x:=by
 unfold evF
 simp only [Int.max_le]
 constructor
 ·rintro ⟨h,h0,h1,h2,h3⟩
  refine ⟨h,fun j hj=>?_⟩
  obtain e|e|e|e:j=0∨j=1∨j=2∨j=3:=by omega
  all_goals subst e; assumption
 ·rintro ⟨h,k⟩
  exact ⟨h,k 0 (by omega),k 1 (by omega),k 2 (by omega),k 3 (by omega)⟩
theorem j1u (f:Fm) (v:Nat→Int):f.num ≤ evF f v:=(j4N.1 (Int.le_refl _)).1
theorem j1f (f:Fm) (v:Nat→Int) {j:Nat} (hj:j < 4):tm (f.off j) (v j) ≤ evF f v:=(j4N.1 (Int.le_refl _)).2 j hj
theorem jgX (f:Fm) (v:Nat→Int):evF f v=f.num∨∃ j,j < 4∧evF f v=tm (f.off j) (v j):=by
 refine Classical.byContradiction fun h=>?_
 simp only [not_or,not_exists,not_and] at h
 obtain ⟨h1,h2⟩:=h
 have:evF f v ≤ evF f v - 1:=j4N.2 ⟨by have:=j1u f v; omega,fun j hj=>by have:=j1f f v hj; have:=h2 j hj; omega⟩
 omega
theorem jdt {a b:Int} (ha : -1 ≤ a) (h:a ≤ b):rise a ≤ rise b:=by
 unfold rise
 by_cases h1:a = -1 <;> by_cases h2:b = -1
 ·rw [if_pos h1,if_pos h2]; omega
 ·rw [if_pos h1,if_neg h2]; omega
 ·omega
 ·rw [if_neg h1,if_neg h2]; omega
theorem jpy {f g:Fm} {v:Nat→Int} (hf:f.low) (hg:g.low) (hv:∀ j,j < 4→0 ≤ v j):evF (j3w f g) v=max (evF f v) (evF g v):=by
 have ht:∀ j,j < 4→tm ((j3w f g).off j) (v j)=max (tm (f.off j) (v j)) (tm (g.off j) (v j)):=fun j hj=>joC (hf.2 j) (hg.2 j) (hv j hj)
 refine Int.le_antisymm (j4N.2 ⟨?_,fun j hj=>?_⟩) (Int.max_le.2 ⟨j4N.2 ⟨?_,fun j hj=>?_⟩,j4N.2 ⟨?_,fun j hj=>?_⟩⟩)
 ·have h1:=j1u f v
  have h2:=j1u g v
  show max f.num g.num ≤ _
  omega
 ·rw [ht j hj]
  have h1:=j1f f v hj
  have h2:=j1f g v hj
  omega
 ·have h1:=j1u (j3w f g) v
  have h2:(j3w f g).num=max f.num g.num:=rfl
  omega
 ·have h1:=j1f (j3w f g) v hj
  rw [ht j hj] at h1
  omega
 ·have h1:=j1u (j3w f g) v
  have h2:(j3w f g).num=max f.num g.num:=rfl
  omega
 ·have h1:=j1f (j3w f g) v hj
  rw [ht j hj] at h1
  omega
theorem jn5 {f:Fm} {v:Nat→Int} (hf:f.low) (hv:∀ j,j < 4→0 ≤ v j):evF (j3j f) v=rise (evF f v):=by
 have ht:∀ j,j < 4→tm ((j3j f).off j) (v j)=rise (tm (f.off j) (v j)):=fun j hj=>joM (hf.2 j) (hv j hj)
 refine Int.le_antisymm (j4N.2 ⟨jdt hf.1 (j1u f v),fun j hj=>?_⟩) ?_
 ·rw [ht j hj]
  exact jdt (jqQ (hf.2 j) (hv j hj)) (j1f f v hj)
 ·rcases jgX f v with h|⟨j,hj,h⟩
  ·rw [h]
   exact j1u (j3j f) v
  ·rw [h,← ht j hj]
   exact j1f (j3j f) v hj
theorem jmT {f g:Fm} (hf:f.low) (hg:g.low):(j3w f g).low:=⟨by have:=hf.1; have:=hg.1; simp only [j3w]; omega,fun j=>by have:=hf.2 j; have:=hg.2 j; simp only [j3w]; omega⟩
theorem jkv {f:Fm} (hf:f.low):(j3j f).low:=⟨by have:=hf.1; simp only [j3j,rise]; split <;> omega,fun j=>by have:=hf.2 j; simp only [j3j,rise]; split <;> omega⟩
theorem jel {n:Int} (h:0 ≤ n):(j1h n).low:=⟨by simp only [j1h]; omega,fun j=>by simp only [j1h]; omega⟩
def Agree (z:Int) (f:Int→Int):Prop:=∀ n:Nat,n < 4→(bit z n=0→1 ≤ f n)∧(bit z n ≠ 0→f n=0)
theorem Agree.ge {z:Int} {f:Int→Int} (h:Agree z f):∀ j:Nat,j < 4→0 ≤ f j:=fun j hj=>by
 obtain ⟨h1,h2⟩:=h j hj
 by_cases hb:bit z j=0
 ·have:=h1 hb; omega
 ·rw [h2 hb]; omega
structure FmOk (z:Int) (f:Fm):Prop where
 low:f.low
 pos:∀ j:Nat,j < 4→f.off j ≠ -1→bit z j=0
theorem jgD {n:Int} (h:0 ≤ n) (v:Nat→Int):evF (j1h n) v=n:=by
 refine Int.le_antisymm (j4N.2 ⟨Int.le_refl _,fun j hj=>?_⟩) (j1u (j1h n) v)
 simp only [j1h,tm,if_true]
 omega
theorem jp2 {z:Int} {f:Fm} {v:Int→Int} (ho:FmOk z f) (ha:Agree z v) (hev:0 ≤ evF f (fun j=>v j)):jii f=true↔evF f (fun j=>v j)=0:=by
 have key:∀ j:Nat,j < 4→f.off j ≠ -1→1 ≤ tm (f.off j) (v j):=fun j hj hne=>by
  have h1:=(ha j hj).1 (ho.pos j hj hne)
  have h2:=ho.low.2 j
  unfold tm
  rw [if_neg hne]
  omega
 have key':∀ j:Nat,f.off j = -1→tm (f.off j) (v j) = -1:=fun j h=>by unfold tm; rw [if_pos h]
 constructor
 ·intro h
  simp only [jii,Bool.and_eq_true,decide_eq_true_eq] at h
  obtain ⟨hn,e0,e1,e2,e3⟩:=h
  refine Int.le_antisymm (j4N.2 ⟨by omega,fun j hj=>?_⟩) hev
  have e:f.off j = -1:=by
   obtain e|e|e|e:j=0∨j=1∨j=2∨j=3:=by omega
   all_goals subst e; assumption
  show tm (f.off j) (v j) ≤ 0
  rw [key' j e]
  omega
 ·intro h
  have hall:∀ j:Nat,j < 4→f.off j = -1:=fun j hj=>Classical.byContradiction fun hne=>by
   have h1:=key j hj hne
   have h2:=j1f f (fun j=>v j) hj
   try dsimp only at h2
   omega
  have hn:f.num=0:=by
   rcases jgX f (fun j=>v j) with h1|⟨j,hj,h1⟩
   ·omega
   ·have h2:=key' j (hall j hj)
    try dsimp only at h1
    omega
  simp only [jii,Bool.and_eq_true,decide_eq_true_eq]
  exact ⟨hn,hall 0 (by omega),hall 1 (by omega),hall 2 (by omega),hall 3 (by omega)⟩
theorem j4t (l:Lv):∀ (z:Int) (f:Int→Int),allF l 4=true→Agree z f→FmOk z (j0F l z)∧valF l f=evF (j0F l z) (fun j=>f j)∧0 ≤ valF l f:=by
 induction l using Lv.ind with
 |_ k n ls ih =>
  intro z f hall ha
  rcases j3d (j5K hall) with ⟨rfl,rfl,h1⟩|⟨rfl,rfl,h1⟩|⟨rfl,rfl,x,rfl⟩|⟨hk,rfl,x,y,rfl⟩
  ·have e:j0F (.mk 1 n []) z=j1h n:=by simp [j0F,j3b]
   have e2:valF (.mk 1 n []) f=n:=by simp [valF,j2O]
   rw [e,e2,jgD h1.1]
   exact ⟨⟨jel h1.1,fun j _ hne=>absurd rfl hne⟩,rfl,h1.1⟩
  ·have e:j0F (.mk 2 n []) z=j3z z n:=by simp [j0F,j3b]
   have e2:valF (.mk 2 n []) f=f n:=by simp [valF,j2O]
   obtain ⟨i,rfl⟩:∃ i:Nat,n=i:=⟨n.toNat,by omega⟩
   have hi:i < 4:=by omega
   obtain ⟨ha1,ha2⟩:=ha i hi
   rw [e,e2]
   by_cases hb:bit z i=0
   ·have e3:j3z z i=⟨-1,fun j=>if (j:Int)=i then 0 else -1⟩:=by unfold j3z; rw [if_pos hb]
    rw [e3]
    refine ⟨⟨⟨by simp,fun j=>by simp only; split <;> omega⟩,fun j hj hne=>?_⟩,?_,by have:=ha1 hb; omega⟩
    ·have:(j:Int)=i:=by
      simp only at hne
      split at hne
      ·assumption
      ·exact absurd rfl hne
     have:j=i:=by omega
     rw [this]; exact hb
    ·have hp:=ha1 hb
     have h3:tm 0 (f i)=f i:=by unfold tm; rw [if_neg (by omega)]; omega
     refine Int.le_antisymm ?_ (j4N.2 ⟨by show (-1:Int) ≤ _; omega,fun j hj=>?_⟩)
     ·have h4:=j1f (⟨-1,fun j=>if (j:Int)=i then 0 else -1⟩:Fm) (fun j=>f j) hi
      dsimp only at h4
      rw [if_pos rfl,h3] at h4
      exact h4
     ·dsimp only
      by_cases hji:(j:Int)=i
      ·rw [if_pos hji,hji,h3]; omega
      ·rw [if_neg hji]
       unfold tm
       rw [if_pos rfl]
       omega
   ·have e3:j3z z i=j1h 0:=by unfold j3z; rw [if_neg hb]
    rw [e3,jgD (Int.le_refl _),ha2 hb]
    exact ⟨⟨jel (Int.le_refl _),fun j _ hne=>absurd rfl hne⟩,rfl,Int.le_refl _⟩
  ·obtain ⟨ho,hv,hp⟩:=ih x (by simp) z f (j1P hall (i:=0) rfl) ha
   rw [jaj,jgT,jn5 ho.low ha.ge,← hv]
   refine ⟨⟨jkv ho.low,fun j hj hne=>ho.pos j hj fun e=>hne ?_⟩,?_,by omega⟩
   ·simp [j3j,rise,e]
   ·unfold rise; rw [if_neg (by omega)]
  ·obtain ⟨hox,hvx,hpx⟩:=ih x (by simp) z f (j1P hall (i:=0) rfl) ha
   obtain ⟨hoy,hvy,hpy⟩:=ih y (by simp) z f (j1P hall (i:=1) rfl) ha
   have hz:=jp2 hoy ha (hvy ▸ hpy)
   rw [← hvy] at hz
   rw [j5A (by omega) (by omega) (by omega),j8C (by omega) (by omega) (by omega)]
   by_cases h5:k=5∧valF y f=0
   ·rw [if_pos h5,if_pos ⟨h5.1,hz.2 h5.2⟩]
    exact ⟨hoy,by rw [← hvy,h5.2],Int.le_refl _⟩
   ·rw [if_neg h5,if_neg (fun h=>h5 ⟨h.1,hz.1 h.2⟩),jpy hox.low hoy.low ha.ge,← hvx,← hvy]
    refine ⟨⟨jmT hox.low hoy.low,fun j hj hne=>?_⟩,rfl,by omega⟩
    by_cases hxj:(j0F x z).off j = -1
    ·refine hoy.pos j hj fun e=>hne ?_
     simp only [j3w,hxj,e]; omega
    ·exact hox.pos j hj hxj
theorem jhd {f:Fm} (hf:f.low):jaF f=evF f (fun _=>1):=by
 have h0:=hf.1
 have key:∀ a x:Int,-1 ≤ a→-1 ≤ x→(if x = -1 then a else max a (x + 1))=max a (tm x 1)∧-1 ≤ max a (tm x 1):=fun a x ha hx=>by
  unfold tm
  split <;> omega
 obtain ⟨k0,l0⟩:=key f.num (f.off 0) h0 (hf.2 0)
 obtain ⟨k1,l1⟩:=key _ (f.off 1) l0 (hf.2 1)
 obtain ⟨k2,l2⟩:=key _ (f.off 2) l1 (hf.2 2)
 obtain ⟨k3,l3⟩:=key _ (f.off 3) l2 (hf.2 3)
 unfold jaF evF
 simp only [j7S]
 rw [k0,k1,k2,k3,Int.max_assoc,Int.max_assoc,Int.max_assoc]
theorem jcC {a b y:Int} (ha : -1 ≤ a) (hb:a ≤ b) (hy:0 ≤ y):tm a y ≤ tm b y:=by
 unfold tm
 by_cases h1:a = -1 <;> by_cases h2:b = -1
 ·rw [if_pos h1,if_pos h2]; omega
 ·rw [if_pos h1,if_neg h2]; omega
 ·omega
 ·rw [if_neg h1,if_neg h2]; omega
theorem jgF {b y y':Int} (hy:b ≠ -1→y ≤ y'):tm b y ≤ tm b y':=by
 unfold tm
 by_cases h2:b = -1
 ·rw [if_pos h2,if_pos h2]; omega
 ·rw [if_neg h2,if_neg h2]; have:=hy h2; omega
theorem jmH {z:Int} {f g:Fm} {v:Int→Int} (hf:FmOk z f) (hg:FmOk z g) (ha:Agree z v) (h:j4R f g=true):evF f (fun j=>v j) ≤ evF g (fun j=>v j):=by
 simp only [j4R,j5l,Bool.and_eq_true,decide_eq_true_eq,Bool.true_and] at h
 obtain ⟨⟨⟨⟨h0,h1⟩,h2⟩,h3⟩,hn⟩:=h
 have m0:=jcC (hf.low.2 0) h0 (ha.ge 0 (by omega))
 have m1:=jcC (hf.low.2 1) h1 (ha.ge 1 (by omega))
 have m2:=jcC (hf.low.2 2) h2 (ha.ge 2 (by omega))
 have m3:=jcC (hf.low.2 3) h3 (ha.ge 3 (by omega))
 have q:∀ j:Nat,j < 4→tm (g.off j) 1 ≤ tm (g.off j) (v j):=fun j hj=>jgF fun hne=>(ha j hj).1 (hg.pos j hj hne)
 rw [jhd hg.low] at hn
 refine j4N.2 ⟨Int.le_trans hn (j4N.2 ⟨j1u _ _,fun j hj=>Int.le_trans (q j hj) (j1f g (fun j=>v j) hj)⟩),fun j hj=>Int.le_trans ?_ (j1f g (fun j=>v j) hj)⟩
 obtain e|e|e|e:j=0∨j=1∨j=2∨j=3:=by omega
 all_goals subst e; assumption
def zOf (f:Int→Int):Int:=(if f 0=0 then 1 else 0) + (if f 1=0 then 2 else 0) + (if f 2=0 then 4 else 0) + (if f 3=0 then 8 else 0)
theorem joU (f:Int→Int) (n:Nat) (hn:n < 4):bit (zOf f) n=if f n=0 then 1 else 0:=by
 unfold bit zOf
 rw [Int.toNat_natCast]
 obtain e|e|e|e:n=0∨n=1∨n=2∨n=3:=by omega
 all_goals
  subst e
  by_cases h0:f 0=0 <;> by_cases h1:f 1=0 <;> by_cases h2:f 2=0 <;> by_cases h3:f 3=0
  all_goals simp [h0,h1,h2,h3]
theorem jla (f:Int→Int):0 ≤ zOf f∧zOf f < 16:=by
 unfold zOf
 by_cases h0:f 0=0 <;> by_cases h1:f 1=0 <;> by_cases h2:f 2=0 <;> by_cases h3:f 3=0
 all_goals simp [h0,h1,h2,h3]
theorem jdH {f:Int→Int} (hf:∀ n:Nat,n < 4→0 ≤ f n):Agree (zOf f) f:=fun n hn=>by
 have h:=hf n hn
 rw [joU f n hn]
 by_cases h0:f n=0
 ·simp [h0]
 ·simp [h0]; omega
theorem jaa {a b:Lv}:∀ {g:Nat},ja4 a b g=true↔∀ z:Nat,z < g→j4R (j0F a z) (j0F b z)=true
 |0=>by simp [ja4]
 |g + 1=>by
  simp only [ja4,Bool.and_eq_true,jaa (g:=g)]
  constructor
  ·rintro ⟨h1,h2⟩ z hz
   by_cases e:z=g
   ·rw [e]; exact h2
   ·exact h1 z (by omega)
  ·intro h
   exact ⟨fun z hz=>h z (by omega),h g (by omega)⟩
theorem jd6 {a b:Lv} (h:leqF a b=true) {f:Int→Int} (hf:∀ n:Nat,n < 4→0 ≤ f n):valF a f ≤ valF b f:=by
 simp only [leqF,Bool.and_eq_true] at h
 obtain ⟨ha,hb,ht⟩:=h
 have hag:=jdH hf
 obtain ⟨hz0,hz1⟩:=jla f
 obtain ⟨oa,va,_⟩:=j4t a (zOf f) f (j1z ha) hag
 obtain ⟨ob,vb,_⟩:=j4t b (zOf f) f (j1z hb) hag
 rw [va,vb]
 refine jmH oa ob hag ?_
 have:=jaa.1 ht (zOf f).toNat (by omega)
 rwa [Int.toNat_of_nonneg hz0] at this
theorem jjS {i j k m n:Nat} (hi:i < 3) (hj:j < 3) (hk:k < 3) (hm:m < 3) (hn:n < 4):j1B (pt i j k m) n=pts ([i,j,k,m].getD n 0):=by
 have hp:∀ q,q < 3→min (max (pts q) 0) 1048576=pts q:=fun q hq=>by
  obtain e|e|e:q=0∨q=1∨q=2:=by omega
  all_goals subst e; decide
 unfold j1B pt
 rw [Int.toNat_natCast]
 obtain e|e|e|e:n=0∨n=1∨n=2∨n=3:=by omega
 all_goals subst e; simp [hp,hi,hj,hk,hm]
theorem jeP {a b:Lv} {z:Nat} (hz:z < 16) (ha:allF a 4=true) (hb:allF b 4=true) (hsa:j0o a ≤ 64) (hsb:j0o b ≤ 64) (h:j4R (j0F a z) (j0F b z)=false) :
  ∃ i j k m,i < 3∧j < 3∧k < 3∧m < 3∧valF b (j1B (pt i j k m)) < valF a (j1B (pt i j k m)):=by
 -- a point: nought where the set says so; 'w n' (1 or 2) elsewhere
 have point:∀ w:Nat→Nat,(∀ n,w n=1∨w n=2)→∃ i j k m,i < 3∧j < 3∧k < 3∧m < 3∧(∀ n:Nat,n < 4→j1B (pt i j k m) n=if bit z n=0 then pts (w n) else 0):=fun w hw=>by
  refine ⟨if bit z (0:Nat)=0 then w 0 else 0,if bit z (1:Nat)=0 then w 1 else 0,if bit z (2:Nat)=0 then w 2 else 0,if bit z (3:Nat)=0 then w 3 else 0,?_,?_,?_,?_,fun n hn=>?_⟩
  ·have:=hw 0; split <;> omega
  ·have:=hw 1; split <;> omega
  ·have:=hw 2; split <;> omega
  ·have:=hw 3; split <;> omega
  ·rw [jjS (by have:=hw 0; split <;> omega) (by have:=hw 1; split <;> omega) (by have:=hw 2; split <;> omega) (by have:=hw 3; split <;> omega) hn]
   have p0:pts 0=0:=rfl
   obtain e|e|e|e:n=0∨n=1∨n=2∨n=3:=by omega
   all_goals
    subst e
    simp only [List.getD_cons_zero,List.getD_cons_succ]
    split
    ·rfl
    ·exact p0
 have p1:pts 1=1:=rfl
 have p2:pts 2=1000:=rfl
 have agree:∀ (w:Nat→Nat) (f:Int→Int),(∀ n,w n=1∨w n=2)→(∀ n:Nat,n < 4→f n=if bit z n=0 then pts (w n) else 0)→Agree z f:=fun w f hw hf n hn=>by
  have h1:=hf n hn
  refine ⟨fun h0=>?_,fun h0=>?_⟩
  ·rw [if_pos h0] at h1
   rcases hw n with e|e
   ·rw [h1,e,p1]; omega
   ·rw [h1,e,p2]; omega
  ·rw [if_neg h0] at h1
   exact h1
 obtain ⟨na,oa⟩:=j8H a z ha
 obtain ⟨nb,ob⟩:=j8H b z hb
 by_cases hoff:∃ i,i < 4∧(j0F b z).off i < (j0F a z).off i
 ·obtain ⟨i,hi,hlt⟩:=hoff
  have hw:∀ n,(fun n=>if n=i then 2 else 1:Nat→Nat) n=1∨(fun n=>if n=i then 2 else 1:Nat→Nat) n=2:=fun n=>by
   dsimp only
   split
   ·exact .inr rfl
   ·exact .inl rfl
  obtain ⟨i0,j0,k0,m0,hi0,hj0,hk0,hm0,hf⟩:=point (fun n=>if n=i then 2 else 1) hw
  refine ⟨i0,j0,k0,m0,hi0,hj0,hk0,hm0,?_⟩
  generalize j1B (pt i0 j0 k0 m0)=f at hf
  have hag:=agree _ f hw hf
  obtain ⟨qa,va,_⟩:=j4t a z f ha hag
  obtain ⟨qb,vb,_⟩:=j4t b z f hb hag
  have o1:=ob i
  have o2:=oa i
  have hne:(j0F a z).off i ≠ -1:=by omega
  have hbi:=qa.pos i hi hne
  have hfi:f i=1000:=by
   have:=hf i hi
   rw [if_pos hbi] at this
   simpa [p2] using this
  have hA:=j1f (j0F a z) (fun j=>f j) hi
  have hA2:tm ((j0F a z).off i) (f i)=(j0F a z).off i + 1000:=by unfold tm; rw [if_neg hne,hfi]
  have hB:evF (j0F b z) (fun j=>f j) ≤ (j0F a z).off i + 999:=by
   refine j4N.2 ⟨by omega,fun j hj=>?_⟩
   have oj:=ob j
   show tm ((j0F b z).off j) (f j) ≤ _
   unfold tm
   split
   ·omega
   ·by_cases e:j=i
    ·subst e; omega
    ·have h1:=hf j hj
     rw [if_neg e,p1] at h1
     have:f j ≤ 1:=by
      rw [h1]
      split <;> omega
     omega
  rw [va,vb]
  try dsimp only at hA
  omega
 ·have hno:∀ i,i < 4→(j0F a z).off i ≤ (j0F b z).off i:=fun i hi=>by
   refine Classical.byContradiction fun hn=>hoff ⟨i,hi,by omega⟩
  have hw:∀ n,(fun _=>1:Nat→Nat) n=1∨(fun _=>1:Nat→Nat) n=2:=fun n=>.inl rfl
  obtain ⟨i0,j0,k0,m0,hi0,hj0,hk0,hm0,hf⟩:=point (fun _=>1) hw
  refine ⟨i0,j0,k0,m0,hi0,hj0,hk0,hm0,?_⟩
  generalize j1B (pt i0 j0 k0 m0)=f at hf
  have hag:=agree _ f hw hf
  obtain ⟨qa,va,_⟩:=j4t a z f ha hag
  obtain ⟨qb,vb,_⟩:=j4t b z f hb hag
  have hn:jaF (j0F b z) < (j0F a z).num:=by
   have h':=h
   simp only [j4R,j5l,hno 0 (by omega),hno 1 (by omega),hno 2 (by omega),hno 3 (by omega),decide_true,Bool.true_and,decide_eq_false_iff_not] at h'
   omega
  rw [jhd qb.low] at hn
  have hB:evF (j0F b z) (fun j=>f j) ≤ evF (j0F b z) (fun _=>1):=by
   refine j4N.2 ⟨j1u _ _,fun j hj=>Int.le_trans (jgF fun hne=>?_) (j1f (j0F b z) (fun _=>1) hj)⟩
   have h1:=hf j hj
   rw [if_pos (qb.pos j hj hne),p1] at h1
   show f j ≤ 1
   omega
  have hA:=j1u (j0F a z) (fun j=>f j)
  rw [va,vb]
  omega
theorem jf8 {a b:Lv} (ha:j0l a 4=true) (hb:j0l b 4=true) (h:∀ i j k m,i < 3→j < 3→k < 3→m < 3→valF a (j1B (pt i j k m)) ≤ valF b (j1B (pt i j k m))):leqF a b=true:=by
 simp only [leqF,ha,hb,Bool.true_and]
 refine jaa.2 fun z hz=>?_
 cases hbel:j4R (j0F a z) (j0F b z) with
 |true=>rfl
 |false =>
  obtain ⟨i,j,k,m,hi,hj,hk,hm,hlt⟩:=jeP hz (j1z ha) (j1z hb) (j4v ha) (j4v hb) hbel
  have:=h i j k m hi hj hk hm
  omega
theorem jnX {a b:Lv} (ha:j0l a 4=true) (hb:j0l b 4=true) (h:∀ f:Int→Int,(∀ n:Nat,n < 4→0 ≤ f n)→valF a f ≤ valF b f):leqF a b=true :=
 jf8 ha hb fun i j k m _ _ _ _=>h _ fun n _=>(j5q _ _).1
theorem joR {k p:Int} {a b:Lv} (hk:k=4∨k=5) (ha:allF a p=true) (hb:allF b p=true):allF (.mk k 0 [a,b]) p=true:=by
 rcases hk with rfl|rfl
 ·simp [allF,j2j,j4O,j7p,ha,hb]
 ·simp [allF,j2j,j4O,j7p,ha,hb]
theorem jhc {l:Lv} {p:Int} (h0:0 ≤ p) (h4:p ≤ 4) (hs:j0o l ≤ 64) (ha:allF l p=true):j0l l p=true:=by
 simp only [j0l,Bool.and_eq_true,decide_eq_true_eq,j2H]
 exact ⟨h0,h4,by omega,ha⟩
theorem jeq {k:Int} {a b:Lv} (hk:k=4∨k=5) (ha:j0l a 4=true) (hb:j0l b 4=true) (hs:j0o a + j0o b ≤ 60):j0l (.mk k 0 [a,b]) 4=true :=
 jhc (by omega) (by omega) (by simp [j0o,j0b]; omega) (joR hk (j1z ha) (j1z hb))
theorem jpI {a:Lv} (ha:j0l a 4=true) {f:Int→Int} (hf:∀ n:Nat,n < 4→0 ≤ f n):0 ≤ valF a f:=(j4t a (zOf f) f (j1z ha) (jdH hf)).2.2
open Go Go.ChangeShapes Go.WideShapes Go.ChangeAt Go.RowKit
def memOf (W:World):Mem:=fun b=>W.heap[b]?
section
variable {H:Type} {enc:TypeId × Value→H} {P:Program} {W W':World}
theorem j7k (hl:laidOutB P=true) (hb:Below W.heap.size W W') {sp:Nat→Bool}:∀ {ts:List TypeId} {vs:List Value} {ds:List (DataW H)} {ps:List MemPlace},(∀ t ∈ ts,P.readableRec t=true∧t < P.types.size) →
  DataW.TrodAll enc P W 0 (fun _=>true) true ts vs ds ps→(∀ x ∈ ps,x.block < W.heap.size)→(∀ x ∈ ps,sp x.block=true)→DataW.TrodAll enc P W' 0 sp true ts vs ds ps
 |[],vs,ds,ps,_,h,_,_=>by
  obtain ⟨rfl,rfl,rfl⟩:=trodAll_nil h
  exact trodAll_mk0
 |t :: ts,vs,ds,ps,hts,h,hlt,hsp=>by
  obtain ⟨v,vs',d,ds',p,q,rfl,rfl,rfl,h1,h2⟩:=trodAll_cons h
  have ht:=hts t (by simp)
  exact trodAll_cons_mk (WideElems.Trod_stays hl ht.1 ht.2 h1 (fun x hx=>hb.same (hlt x (List.mem_append_left _ hx))) (fun x hx=>hsp x (List.mem_append_left _ hx)))
   (j7k hl hb (fun t' h'=>hts t' (List.mem_cons_of_mem _ h')) h2 (fun x hx=>hlt x (List.mem_append_right _ hx)) (fun x hx=>hsp x (List.mem_append_right _ hx)))
theorem post_low {f:Func} {s:ChangeSpec} {apart fresh handsOn again:Bool} {args:Array Value} {v:Value} {ds gs:List (DataW H)} {before:List MemPlace}
  (hW:DataW.Whole enc P f.params.toList s.vars apart W args.toList ds gs before) (hb:Below W.heap.size W W') (hl:laidOutB P=true) (hts:∀ t ∈ f.params.toList,P.readableRec t=true∧t < P.types.size)
  (hvars:s.vars=[]) (hargs:(s.fn H (ds ++ gs)).args=ds) (hvs:(s.fn H (ds ++ gs)).vars=[])
  (hres:∀ (b:Nat) (sp:Nat→Bool) (hd:Bool),DataW.TrodAll enc P W' b sp hd f.resultTypes.toList (v.resultList f.resultTypes.size) (s.fn H (ds ++ gs)).results [])
  (hok:∀ (j:Nat) (t:TypeId) (r:Value),f.resultTypes[j]? = some t→(v.resultList f.resultTypes.size)[j]? = some r→Value.okWide P W' .any 0 t r) :
  s.post enc P f apart fresh handsOn again W args v W':=by
 have hlt:=hW.lt
 have hW':=hW
 obtain ⟨p,q,hA,hV,rfl,hz,hn⟩:=hW
 rw [hvars] at hV
 obtain ⟨rfl,rfl⟩:=trodVars_none hV
 simp only [List.append_nil] at hW' hlt hz hn hargs hvs hres ⊢
 have hA':∀ sp:Nat→Bool,(∀ x ∈ p,sp x.block=true)→DataW.TrodAll enc P W' 0 sp true f.params.toList args.toList (s.fn H ds).args p:=fun sp h=>by
  rw [hargs]
  exact j7k hl hb hts hA hlt h
 have hV':∀ sp:Nat→Bool,DataW.TrodVars enc P W' sp s.vars (s.fn H ds).vars []:=fun sp=>by
  rw [hvars,hvs]
  rfl
 refine ⟨ds,[],p,[],p,[],hW',by simpa using hres _ _ _,by simpa using hA' _ (fun x hx=>by simpa using hlt x hx),by simpa using hV' _,hb.frame _,fun _=>?_⟩
 refine ⟨hok,_,_,([] ++ p) ++ [],⟨[] ++ p,[],trodAll_append (hA' _ (fun _ _=>rfl)) (hres _ _ _),hV' _,rfl,?_,?_⟩,?_⟩
 ·intro b off hp
  have hp':MemPlace.cell b off ∈ p:=by simpa using hp
  rw [hb.frozen (hlt _ hp')]
  exact hz b off hp'
 ·intro ha
  simpa using hn ha
 ·intro x hx _
  simpa using hx
theorem jeR {a:Addr} {i:Nat} {v:Value} (h:W.cell? (a.add i)=some v):Rd (memOf W) a.block (a.off + i) v∧(i=0→a.spot=none):=by
 unfold World.cell? at h
 have hblk:(a.add i).block=a.block:=by unfold Addr.add; split <;> rfl
 have hoff:(a.add i).off=a.off + i:=by
  unfold Addr.add
  split
  ·rename_i e; rw [e]; rfl
  ·rfl
 rw [hblk] at h
 split at h
 ·rename_i c T fr e
  split at h
  ·cases h
  ·rename_i hs
   rw [hoff] at h
   refine ⟨⟨c,T,fr,e,h⟩,fun hi=>?_⟩
   subst hi
   simpa [Addr.add] using hs
 ·cases h
theorem add_block (a:Addr) (i:Nat):(a.add i).block=a.block:=by unfold Addr.add; split <;> rfl
theorem jp0 (a:Addr) (i:Nat):(a.add i).off=a.off + i:=by
 unfold Addr.add
 split
 ·rename_i e; rw [e]; rfl
 ·rfl
theorem LvsV.of {m:Mem}:∀ {ls:List Lv} {b off:Nat},(∀ i l,ls[i]? = some l→∃ cs,RdN m b (off + i * 3) cs∧LvV m l cs)→LvsV m ls b off
 |[],_,_,_=>trivial
 |l :: r,b,off,h=>by
  refine ⟨by simpa using h 0 l rfl,LvsV.of fun i l' hl=>?_⟩
  have:=h (i + 1) l' (by simpa using hl)
  rwa [show off + (i + 1) * 3=off + 3 + i * 3 by omega] at this
theorem jlx {α:Type} {Q:Nat→α→Prop}:∀ {n:Nat},(∀ i,i < n→∃ x,Q i x)→∃ xs:List α,xs.length=n∧∀ i x,xs[i]? = some x→Q i x
 |0,_=>⟨[],rfl,fun i x h=>by simp at h⟩
 |n + 1,h=>by
  obtain ⟨xs,h1,h2⟩:=jlx (n:=n) fun i hi=>h i (by omega)
  obtain ⟨x,hx⟩:=h n (by omega)
  refine ⟨xs ++ [x],by simp [h1],fun i y hy=>?_⟩
  by_cases hi:i < n
  ·rw [List.getElem?_append_left (by omega)] at hy
   exact h2 i y hy
  ·have hlt:=(List.getElem?_eq_some_iff.1 hy).1
   simp at hlt
   obtain rfl:i=n:=by omega
   rw [List.getElem?_append_right (by omega),h1] at hy
   simp at hy
   subst hy
   exact hx
theorem weightsAll_mem {e:TypeId}:∀ {ds:List (DataW H)} {d:DataW H} {n:Nat},d ∈ ds→n ∈ d.weights P e→n ∈ DataW.weightsAll P e ds
 |d0 :: r,d,n,hd,hn=>by
  simp only [DataW.weightsAll,List.mem_append]
  rcases List.mem_cons.1 hd with rfl|hd
  ·exact .inl hn
  ·exact .inr (weightsAll_mem hd hn)
end
end Go.Gw

/-
  Terms of the right shape: what is made of them is of it. No program in sight.
-/
import Derived.Test.YtljnahbgfmflaaaGreatDoorZKn
import Derived.Test.YtljnahbgfmflaaaGreatDoorZLj
import Derived.Test.YtljnahbgfmflaaaGreatDoorZKd
import Derived.Test.YtljnahbgfmflaaaGreatDoorZKg
set_option linter.unusedVariables false
set_option linter.unusedSimpArgs false
set_option linter.unnecessarySimpa false
namespace Go.Proofs.YtljnahbgfmflaaaGreatDoor
open Go Go.Am Go.Gw
mutual
def shT:Tm→Bool
 | .mk k n _ ls ts=>(decide (1 ≤ k) && decide (k ≤ 7)) && (decide ((ts.length:Int)=j0T k) && (if k=3 then decide (ls.length ≤ 4) else decide ((ls.length:Int)=j0H k)) && (shTs ts && (!decide (k=1) || decide (0 ≤ n))))
def shTs:List Tm→Bool
 |[]=>true
 |t :: r=>shT t && shTs r
end
theorem jcx:∀ ts:List Tm,shTs ts=ts.all shT
 |[]=>rfl
 |t :: r=>by rw [shTs,List.all_cons,jcx r]
theorem j0q {k n:Int} {s:List UInt8} {ls:List Lv} {ts:List Tm} (h:shT (.mk k n s ls ts)=true):(1 ≤ k∧k ≤ 7)∧(ts.length:Int)=j0T k∧(k=3→ls.length ≤ 4)∧(¬ k=3→(ls.length:Int)=j0H k)∧(∀ t ∈ ts,shT t=true)∧(k=1→0 ≤ n):=by
 rw [shT,jcx] at h
 simp only [Bool.and_eq_true,decide_eq_true_eq,List.all_eq_true] at h
 obtain ⟨h1,⟨h2,h3⟩,h4,h5⟩:=h
 refine ⟨h1,h2,fun e=>?_,fun e=>?_,h4,fun e=>by simpa [e] using h5⟩
 ·rw [if_pos e] at h3
  simpa using h3
 ·rw [if_neg e] at h3
  simpa using h3
theorem j7W {k n:Int} {s:List UInt8} {ls:List Lv} {ts:List Tm} (h1:1 ≤ k∧k ≤ 7) (h2:(ts.length:Int)=j0T k) (h3:k=3→ls.length ≤ 4) (h4:¬ k=3→(ls.length:Int)=j0H k) (h5:∀ t ∈ ts,shT t=true) (h6:k=1→0 ≤ n):shT (.mk k n s ls ts)=true:=by
 rw [shT,jcx]
 simp only [Bool.and_eq_true,decide_eq_true_eq,List.all_eq_true]
 refine ⟨h1,⟨h2,?_⟩,h5,by by_cases e:k=1 <;> simp [e,h6]⟩
 split
 ·rename_i e
  simpa using h3 e
 ·rename_i e
  simpa using h4 e
mutual
theorem jb2:∀ (t:Tm) (p kk:Int),allT t p kk=true→shT t=true
 | .mk k n s ls ts,p,kk,h=>by
  obtain ⟨h1,h2,h3,h4,h5⟩:=j0r h
  refine j7W h1 h2 (fun e=>?_) (fun e=>?_) (jae ts k 0 p kk h5) (fun e=>(j1j h3 e).1)
  ·simp only [j2Z] at h3
   rw [if_neg (by omega),if_pos e] at h3
   simp at h3
   omega
  ·simp only [j2Z] at h3
   split at h3
   ·rename_i e1
    simp at h3
    subst e1
    simp [j0H,h3.2.2.2]
   ·simp [e] at h3
    omega
theorem jae:∀ (ts:List Tm) (k i p kk:Int),j0J ts k i p kk=true→∀ t ∈ ts,shT t=true
 |[],_,_,_,_,_,t,ht=>by cases ht
 |a :: r,k,i,p,kk,h,t,ht=>by
  simp only [j0J,Bool.and_eq_true] at h
  rcases List.mem_cons.1 ht with ht|ht
  ·rw [ht]
   exact jb2 a _ _ h.1
  ·exact jae r k (i + 1) p kk h.2 t ht
end
theorem j4F {t:Tm} {p kk:Int} (h:j0L t p kk=true):shT t=true:=jb2 _ _ _ (j3r h).2.2.2
theorem jeT {t:Tm} (h:anyT t=true):shT t=true:=j4F h
theorem jgA:∀ (t:Tm),shT t=true→shT (spF t).1=true∧(∀ a ∈ (spF t).2,shT a=true)∧¬ (spF t).1.kind=4
 | .mk k n s ls ts,h=>by
  obtain ⟨h1,h2,h3,h4,h5,h6⟩:=j0q h
  by_cases hk:k=4
  ·subst hk
   have hl:ts.length=2:=by
    have:j0T 4=2:=rfl
    omega
   match ts,hl,h5 with
   |[f,a],_,h5 =>
    obtain ⟨a1,a2,a3⟩:=jgA f (h5 f (by simp))
    rw [jbY]
    refine ⟨a1,?_,a3⟩
    intro x hx
    rcases List.mem_cons.1 hx with rfl|hx
    ·exact h5 _ (by simp)
    ·exact a2 x hx
  ·rw [jcZ (fun e=>hk e.1)]
   exact ⟨h,by simp,hk⟩
theorem j9P:∀ (t:Tm),sizT (spF t).1 + (spF t).2.length ≤ sizT t∧(∀ a ∈ (spF t).2,sizT a < sizT t)
 | .mk k n s ls ts=>by
  by_cases hk:k=4∧ts.length=2
  ·obtain ⟨rfl,hl⟩:=hk
   match ts,hl with
   |[f,a],_ =>
    obtain ⟨a1,a2⟩:=j9P f
    rw [jbY]
    have e:sizT (.mk 4 n s ls [f,a])=1 + j0c ls + (sizT f + (sizT a + 0)):=by simp [sizT,j0B]
    have ha:=jgV a
    refine ⟨by simp only [List.length_cons]; omega,?_⟩
    intro x hx
    rcases List.mem_cons.1 hx with rfl|hx
    ·omega
    ·have:=a2 x hx
     omega
  ·rw [jcZ hk]
   exact ⟨by simp,by simp⟩
theorem jmk:∀ (t:Tm),TmW t→TmW (spF t).1∧∀ a ∈ (spF t).2,TmW a
 | .mk k n s ls ts,h=>by
  by_cases hk:k=4∧ts.length=2
  ·obtain ⟨rfl,hl⟩:=hk
   match ts,hl,h with
   |[f,a],_,h =>
    obtain ⟨a1,a2⟩:=jmk f (h.args.1 f (by simp))
    rw [jbY]
    refine ⟨a1,?_⟩
    intro x hx
    rcases List.mem_cons.1 hx with rfl|hx
    ·exact h.args.1 _ (by simp)
    ·exact a2 x hx
  ·rw [jcZ hk]
   exact ⟨h,by simp⟩
theorem j3c {t a:Tm}:a ∈ j1c t↔a ∈ (spF t).2:=by simp [j1c]
theorem jfX:∀ (ts:List Tm) (f:Tm),shT f=true→(∀ a ∈ ts,shT a=true)→shT (appF f ts)=true
 |[],f,h,_=>h
 |a :: r,f,h,hs=>by
  rw [appF]
  refine jfX r _ (j7W (by omega) rfl (by omega) (fun _=>rfl) ?_ (by omega)) fun x hx=>hs x (by simp [hx])
  intro x hx
  rcases List.mem_cons.1 hx with rfl|hx
  ·exact h
  ·rcases List.mem_cons.1 hx with rfl|hx
   ·exact hs _ (by simp)
   ·cases hx
mutual
theorem joG {put:Tm→Int→Option Tm}:∀ (t:Tm) (d left:Int),(bldF put t d left).2 ≤ left
 | .mk k n s ls ts,d,left=>by
  rw [bldF]
  by_cases h0:left < 0
  ·rw [j3t h0]
   exact Int.le_refl _
  ·cases hp:put (.mk k n s ls ts) d with
   |some x =>
    rw [j4n h0 hp]
    have:=j1X x
    dsimp only
    omega
   |none =>
    by_cases hl:ts.length=0
    ·rw [j3i h0 hp hl]
     have:=j1X (.mk k n s ls ts)
     dsimp only
     omega
    ·rw [j3f h0 hp hl]
     have:=jcT (put:=put) ts k 0 d (left - 1)
     dsimp only
     omega
theorem jcT {put:Tm→Int→Option Tm}:∀ (ts:List Tm) (k i d left:Int),(j1f put ts k i d left).2 ≤ left
 |[],_,_,_,left=>by
  rw [j1f]
  exact Int.le_refl _
 |t :: r,k,i,d,left=>by
  rw [j1f]
  have h1:=joG (put:=put) t (j0m (j0j k) i d) left
  have h2:=jcT (put:=put) r k (i + 1) d (bldF put t (j0m (j0j k) i d) left).2
  dsimp only
  omega
end
mutual
theorem jkO {put:Tm→Int→Option Tm} (hput:∀ t d x,shT t=true→0 ≤ d→put t d=some x→shT x=true):∀ (t:Tm) (d left:Int),shT t=true→0 ≤ d→0 ≤ (bldF put t d left).2→shT (bldF put t d left).1=true
 | .mk k n s ls ts,d,left,h,hd0,hl0=>by
  rw [bldF] at hl0 ⊢
  by_cases h0:left < 0
  ·rw [j3t h0] at hl0
   dsimp only at hl0
   omega
  ·cases hp:put (.mk k n s ls ts) d with
   |some x =>
    rw [j4n h0 hp]
    exact hput _ _ _ h hd0 hp
   |none =>
    by_cases hl:ts.length=0
    ·rw [j3i h0 hp hl]
     exact h
    ·rw [j3f h0 hp hl] at hl0 ⊢
     obtain ⟨h1,h2,h3,h4,h5,h6⟩:=j0q h
     have h4k:¬ k=3:=fun e=>by
      subst e
      have:j0T 3=0:=rfl
      omega
     have h2k:¬ k=2:=fun e=>by
      subst e
      have:j0T 2=0:=rfl
      omega
     refine j7W h1 (by rw [j4E]; exact h2) (fun e=>absurd e h4k) (fun _=>?_) ?_ (fun _=>Int.le_refl 0)
     ·unfold j0H
      rw [if_neg (by simpa [Tm.kind] using h2k)]
      rfl
     ·exact jh1 hput ts k 0 d (left - 1) h5 hd0 hl0
theorem jh1 {put:Tm→Int→Option Tm} (hput:∀ t d x,shT t=true→0 ≤ d→put t d=some x→shT x=true):∀ (ts:List Tm) (k i d left:Int),(∀ t ∈ ts,shT t=true)→0 ≤ d→0 ≤ (j1f put ts k i d left).2→∀ x ∈ (j1f put ts k i d left).1,shT x=true
 |[],_,_,_,_,_,_,_,x,hx=>by
  rw [j1f] at hx
  cases hx
 |t :: r,k,i,d,left,h,hd0,hl0,x,hx=>by
  have hi:=j1F (j0j k) i d
  rw [j1f] at hx hl0
  dsimp only at hx hl0
  have h2:=jcT (put:=put) r k (i + 1) d (bldF put t (j0m (j0j k) i d) left).2
  rcases List.mem_cons.1 hx with rfl|hx
  ·exact jkO hput t _ left (h t (by simp)) (by omega) (by omega)
  ·exact jh1 hput r k (i + 1) d _ (fun y hy=>h y (by simp [hy])) hd0 hl0 x hx
end
theorem jc3 {put:Tm→Int→Option Tm} (hput:∀ t d x,shT t=true→0 ≤ d→put t d=some x→shT x=true) {t x:Tm} (h:shT t=true) (hx:j2I put t=some x):shT x=true:=by
 unfold j2I at hx
 split at hx
 ·cases hx
 ·cases hx
  exact jkO hput t 0 2000 h (by omega) (by omega)
theorem jfI {n:Int} (h:0 ≤ n):shT (.mk 1 n [] [] [])=true:=j7W (by omega) rfl (by omega) (fun _=>rfl) (by simp) (fun _=>h)
theorem jjS {t:Tm} (h:shT t=true) (hk:t.kind=1):0 ≤ t.num:=by
 obtain ⟨k,n,s,ls,ts⟩:=t
 exact (j0q h).2.2.2.2.2 hk
theorem jlB {b f:Int} (hb:0 ≤ b):∀ t d x,shT t=true→0 ≤ d→movF b f t d=some x→shT x=true:=fun t d x hs hd h=>by
 unfold movF at h
 split at h
 ·rename_i hc
  cases h
  have:=jjS hs hc.1
  exact jfI (by omega)
 ·cases h
theorem jhB {t:Tm} (h:anyT t=true) {d:Int} (hd:0 ≤ d):shT (j3b t d)=true:=by
 have hm:=jmh (put:=movF d 0) (jnj d 0) (joJ h)
 have:=jc3 (jlB hd) (jeT h) hm
 unfold j3b
 rw [hm]
 exact this
theorem jpf {us:List Tm} (hu:∀ u ∈ us,anyT u=true):∀ t d x,shT t=true→0 ≤ d→insF us t d=some x→shT x=true:=fun t d x _ hd h=>by
 unfold insF at h
 split at h
 ·rename_i hc
  cases h
  split
  ·exact jfI (by omega)
  ·rename_i h3
   have hq:((us.length:Int) - 1 - (t.num - d)).toNat < us.length:=by omega
   have hm:us.getD ((us.length:Int) - 1 - (t.num - d)).toNat tz ∈ us:=by
    rw [List.getD_eq_getElem?_getD,List.getElem?_eq_getElem hq]
    exact List.getElem_mem hq
   exact jhB (hu _ hm) hd
 ·cases h
theorem j9x {t x:Tm} {us:List Tm} (h:InstF t us=some x):anyT t=true∧us.length ≤ 1048576∧us.all anyT=true∧j2I (insF us) t=some x:=by
 unfold InstF at h
 split at h
 ·rename_i hc
  exact ⟨hc.1,hc.2.1,hc.2.2,h⟩
 ·cases h
theorem j5v {t x:Tm} {us:List Tm} (h:InstF t us=some x):shT x=true:=by
 obtain ⟨h1,h2,h3,h4⟩:=j9x h
 exact jc3 (jpf (List.all_eq_true.1 h3)) (jeT h1) h4
theorem j7S {t x:Tm} {us:List Tm} (hu:∀ u ∈ us,TmW u) (ht:TmW t) (h:InstF t us=some x):TmW x:=by
 obtain ⟨h1,h2,h3,h4⟩:=j9x h
 exact jbz (jgn hu (List.all_eq_true.1 h3) h2) ht (j2A h1).2 (by omega) (by have:=j4g h1; omega) (j4g h1) h4
theorem j9S {t x:Tm} {b f:Int} (h:j5H t b f=some x):anyT t=true∧(0 ≤ b∧b ≤ 1048576)∧(0 ≤ f∧f ≤ 1048576)∧j2I (movF b f) t=some x:=by
 unfold j5H at h
 split at h
 ·rename_i hc
  exact ⟨hc.1,hc.2.1,hc.2.2,h⟩
 ·cases h
theorem jgR {t x:Tm} {b f:Int} (h:j5H t b f=some x):shT x=true:=by
 obtain ⟨h1,h2,h3,h4⟩:=j9S h
 exact jc3 (jlB h2.1) (jeT h1) h4
theorem jhi {t x:Tm} {b f:Int} (ht:TmW t) (h:j5H t b f=some x):TmW x:=by
 obtain ⟨h1,h2,h3,h4⟩:=j9S h
 exact jbz (jgf (by omega)) ht (j2A h1).2 (by omega) (by have:=j4g h1; omega) (j4g h1) h4
theorem jbg:∀ {ls bys xs:List Lv},j1k ls bys=some xs→xs.length=ls.length
 |[],bys,xs,h=>by
  simp [j1k] at h
  subst h
  rfl
 |l :: r,bys,xs,h=>by
  rw [j1k] at h
  split at h
  ·cases h
  ·cases h1:j1k r bys with
   |none=>rw [h1] at h; cases h
   |some ys =>
    rw [h1] at h
    cases h
    simp [jbg h1]
theorem jhp:∀ {ts:List Tm} {bys:List Lv} {xs:List Tm},lvTs ts bys=some xs→xs.length=ts.length
 |[],bys,xs,h=>by
  simp [lvTs] at h
  subst h
  rfl
 |t :: r,bys,xs,h=>by
  rw [lvTs] at h
  split at h
  ·cases h
  ·cases h1:lvTs r bys with
   |none=>rw [h1] at h; cases h
   |some ys =>
    rw [h1] at h
    cases h
    simp [jhp h1]
mutual
theorem jo7 {bys:List Lv}:∀ {t x:Tm},shT t=true→lvT t bys=some x→shT x=true
 | .mk k n s ls ts,x,h,hx=>by
  obtain ⟨h1,h2,h3,h4,h5,h6⟩:=j0q h
  rw [lvT] at hx
  cases e1:j1k ls bys with
  |none=>rw [e1] at hx; cases hx
  |some ls' =>
   rw [e1] at hx
   cases e2:lvTs ts bys with
   |none=>rw [e2] at hx; cases hx
   |some ts' =>
    rw [e2] at hx
    cases hx
    have a1:=jbg e1
    have a2:=jhp e2
    exact j7W h1 (by rw [a2]; exact h2) (fun e=>by rw [a1]; exact h3 e) (fun e=>by rw [a1]; exact h4 e) (jkY h5 e2) h6
theorem jkY {bys:List Lv}:∀ {ts xs:List Tm},(∀ t ∈ ts,shT t=true)→lvTs ts bys=some xs→∀ t ∈ xs,shT t=true
 |[],xs,h,hx,t,ht=>by
  simp [lvTs] at hx
  subst hx
  cases ht
 |a :: r,xs,h,hx,t,ht=>by
  rw [lvTs] at hx
  split at hx
  ·cases hx
  ·rename_i y e1
   cases e2:lvTs r bys with
   |none=>rw [e2] at hx; cases hx
   |some ys =>
    rw [e2] at hx
    cases hx
    rcases List.mem_cons.1 ht with rfl|ht
    ·exact jo7 (h a (by simp)) e1
    ·exact jkY (fun x hx=>h x (by simp [hx])) e2 t ht
end
theorem j3Y {t x:Tm} {bys:List Lv} (h:j1x t bys=some x):j0L t bys.length 1125899906842624=true∧lvT t bys=some x∧j0x x ≤ 2000:=by
 unfold j1x at h
 split at h
 ·rename_i h1
  split at h
  ·cases h
  ·rename_i y h2
   split at h
   ·rename_i h3
    cases h
    exact ⟨h1,h2,h3⟩
   ·cases h
 ·cases h
theorem j7w {t x:Tm} {bys:List Lv} (h:j1x t bys=some x):shT x=true:=by
 obtain ⟨h1,h2,h3⟩:=j3Y h
 exact jo7 (j4F h1) h2
theorem j8G {t x:Tm} {bys:List Lv} (hb:∀ l ∈ bys,LvW l) (ht:TmW t) (h:j1x t bys=some x):TmW x:=jon hb ht (j3Y h).2.1
theorem jdf {pars:Int} {t x:Tm} {bys:List Lv} (h:atF pars t bys = .ok x):j1x t bys=some x:=by
 unfold atF at h
 split at h
 ·cases h
 ·split at h
  ·cases h
  ·rename_i y h2
   cases h
   exact h2
end Go.Proofs.YtljnahbgfmflaaaGreatDoor
namespace Go.Gw
def Tm.arg (t:Tm) (i:Nat):Tm:=t.args.getD i (.mk 0 0 [] [] [])
def Tm.lv (t:Tm):Lv:=t.levels.getD 0 (.mk 0 0 [])
end Go.Gw
namespace Go.Proofs.YtljnahbgfmflaaaGreatDoor
open Go Go.Am Go.Gw
abbrev M (α:Type):Type:=Int→Option (Except Int α × Int)
section
variable {α β:Type}
def mok (a:α):M α:=fun l=>some (.ok a,l)
def mno (e:Int):M α:=fun l=>some (.error e,l)
def bnd (x:M α) (f:α→M β):M β:=fun l=>match x l with
 |none=>none
 |some (.error e,l')=>some (.error e,l')
 |some (.ok a,l')=>f a l'
def j2O (b:Bool) (e:Int):M Unit:=match b with
 |true=>mok ()
 |false=>mno e
def j4p:M Unit:=fun l=>match decide (1 ≤ l) with
 |true=>some (.ok (),l - 1)
 |false=>some (.error 22,l)
def optF (o:Option α) (e:Int):M α:=match o with
 |some a=>mok a
 |none=>mno e
def exF (o:Except Int α):M α:=fun l=>some (o,l)
theorem j0d {x:M α} {f:α→M β} {l l':Int} {r:Except Int β} (h:bnd x f l=some (r,l')):(∃ e,x l=some (.error e,l')∧r = .error e)∨∃ a l1,x l=some (.ok a,l1)∧f a l1=some (r,l'):=by
 unfold bnd at h
 split at h
 ·cases h
 ·rename_i e l1 hx
  cases h
  exact .inl ⟨e,hx,rfl⟩
 ·rename_i a l1 hx
  exact .inr ⟨a,l1,hx,h⟩
theorem j1o {b:Bool} {e l l':Int} {r:Except Int Unit} (h:j2O b e l=some (r,l')):l'=l∧((b=true∧r = .ok ())∨(b=false∧r = .error e)):=by
 cases b <;> cases h <;> simp
theorem j0Z {l l':Int} {r:Except Int Unit} (h:j4p l=some (r,l')):(1 ≤ l∧l'=l - 1∧r = .ok ())∨(l < 1∧l'=l∧r = .error 22):=by
 unfold j4p at h
 by_cases c:1 ≤ l
 ·rw [decide_eq_true c] at h
  cases h
  exact .inl ⟨c,rfl,rfl⟩
 ·rw [decide_eq_false c] at h
  cases h
  exact .inr ⟨by omega,rfl,rfl⟩
structure Fine (x:M α):Prop where
 dn:∀ l r l',0 ≤ l→x l=some (r,l')→0 ≤ l'∧l' ≤ l
 more:∀ l r l' k,0 ≤ l→0 ≤ k→x l=some (r,l')→r ≠ .error 22→x (l + k)=some (r,l' + k)
 out:∀ l l' k,0 ≤ l→0 ≤ k→x l=some (.error 22,l')→l'=0∧∀ r2 l2,x (l + k)=some (r2,l2)→l2 ≤ k
 nz:∀ l l',x l ≠ some (.error 0,l')
theorem j0p (a:α):Fine (mok a):=⟨fun l r l' h0 h=>by cases h; exact ⟨h0,Int.le_refl _⟩,fun l r l' k h0 hk h hr=>by cases h; rfl,fun l l' k h0 hk h=>(by cases h),fun l l' h=>by cases h⟩
theorem jjr {e:Int} (he:e ≠ 22∧e ≠ 0):Fine (mno (α:=α) e):=⟨fun l r l' h0 h=>by cases h; exact ⟨h0,Int.le_refl _⟩,fun l r l' k h0 hk h hr=>by cases h; rfl,fun l l' k h0 hk h=>(by cases h; exact absurd rfl he.1),fun l l' h=>by cases h; exact absurd rfl he.2⟩
theorem j0W {b:Bool} {e:Int} (he:e ≠ 22∧e ≠ 0):Fine (j2O b e):=by
 cases b with
 |true=>exact j0p _
 |false=>exact jjr he
theorem jgH {o:Option α} {e:Int} (he:e ≠ 22∧e ≠ 0):Fine (optF o e):=by
 cases o with
 |some a=>exact j0p _
 |none=>exact jjr he
theorem jog {o:Except Int α} (he:o ≠ .error 22∧o ≠ .error 0):Fine (exF o):=⟨fun l r l' h0 h=>by cases h; exact ⟨h0,Int.le_refl _⟩,fun l r l' k h0 hk h hr=>by cases h; rfl,fun l l' k h0 hk h=>(by cases h; exact absurd rfl he.1),fun l l' h=>by cases h; exact absurd rfl he.2⟩
theorem j2W:Fine j4p:=by
 refine ⟨fun l r l' h0 h=>?_,fun l r l' k h0 hk h hr=>?_,fun l l' k h0 hk h=>?_,fun l l' h=>?_⟩
 ·rcases j0Z h with ⟨h1,h2,h3⟩|⟨h1,h2,h3⟩ <;> omega
 ·rcases j0Z h with ⟨h1,h2,h3⟩|⟨h1,h2,h3⟩
  ·unfold j4p
   rw [decide_eq_true (by omega:1 ≤ l + k),h3,h2]
   simp only [Option.some.injEq,Prod.mk.injEq,true_and]
   omega
  ·exact absurd h3 hr
 ·rcases j0Z h with ⟨h1,h2,h3⟩|⟨h1,h2,h3⟩
  ·cases h3
  ·refine ⟨by omega,fun r2 l2 h'=>?_⟩
   rcases j0Z h' with ⟨a1,a2,a3⟩|⟨a1,a2,a3⟩ <;> omega
 ·rcases j0Z h with ⟨h1,h2,h3⟩|⟨h1,h2,h3⟩ <;> cases h3
theorem j0b {x:M α} {f:α→M β} (hx:Fine x) (hf:∀ a,Fine (f a)):Fine (bnd x f):=by
 refine ⟨fun l r l' h0 h=>?_,fun l r l' k h0 hk h hr=>?_,fun l l' k h0 hk h=>?_,fun l l' h=>?_⟩
 ·rcases j0d h with ⟨e,h1,h2⟩|⟨a,l1,h1,h2⟩
  ·exact hx.dn l _ l' h0 h1
  ·have:=hx.dn l _ l1 h0 h1
   have:=(hf a).dn l1 r l' this.1 h2
   omega
 ·rcases j0d h with ⟨e,h1,h2⟩|⟨a,l1,h1,h2⟩
  ·subst h2
   have:=hx.more l _ l' k h0 hk h1 (fun e'=>hr (by cases e'; rfl))
   simp only [bnd,this]
  ·have h3:=hx.dn l _ l1 h0 h1
   have h4:=hx.more l _ l1 k h0 hk h1 (by simp)
   have h5:=(hf a).more l1 r l' k h3.1 hk h2 hr
   simp only [bnd,h4,h5]
 ·rcases j0d h with ⟨e,h1,h2⟩|⟨a,l1,h1,h2⟩
  ·cases h2
   obtain ⟨a1,a2⟩:=hx.out l l' k h0 hk h1
   refine ⟨a1,fun r2 l2 h'=>?_⟩
   rcases j0d h' with ⟨e,b1,b2⟩|⟨a,l1,b1,b2⟩
   ·exact a2 _ _ b1
   ·have c1:=a2 _ _ b1
    have c2:=hx.dn (l + k) _ l1 (by omega) b1
    have c3:=(hf a).dn l1 _ l2 c2.1 b2
    omega
  ·have h3:=hx.dn l _ l1 h0 h1
   have h4:=hx.more l _ l1 k h0 hk h1 (by simp)
   obtain ⟨a1,a2⟩:=(hf a).out l1 l' k h3.1 hk h2
   refine ⟨a1,fun r2 l2 h'=>?_⟩
   simp only [bnd,h4] at h'
   exact a2 r2 l2 h'
 ·rcases j0d h with ⟨e,h1,h2⟩|⟨a,l1,h1,h2⟩
  ·cases h2
   exact hx.nz _ _ h1
  ·exact (hf a).nz _ _ h2
def Le (x y:M α):Prop:=∀ l r l',x l=some (r,l')→y l=some (r,l')
theorem Le.refl (x:M α):Le x x:=fun _ _ _ h=>h
theorem Le.bnd {x y:M α} {f g:α→M β} (h:Le x y) (hf:∀ a,Le (f a) (g a)):Le (bnd x f) (Go.Proofs.YtljnahbgfmflaaaGreatDoor.bnd y g):=fun l r l' h'=>by
 rcases j0d h' with ⟨e,h1,h2⟩|⟨a,l1,h1,h2⟩
 ·subst h2
  have:=h _ _ _ h1
  simp only [Go.Proofs.YtljnahbgfmflaaaGreatDoor.bnd,this]
 ·have h3:=h _ _ _ h1
  have h4:=hf a _ _ _ h2
  simp only [Go.Proofs.YtljnahbgfmflaaaGreatDoor.bnd,h3,h4]
end
def appO (o:Option Tm) (ts:List Tm):Option Tm:=match o with
 |none=>none
 |some b=>some (appF b ts)
def okO (o:Except Int Tm):Option Tm:=match o with
 | .ok x=>some x
 | .error _=>none
theorem j6r (o:Option Tm) (ts:List Tm):(appO o ts).isSome=o.isSome:=by cases o <;> rfl
def jat (E:Nv) (t:Tm) (ofs:List (List UInt8)):Option (En × List Tm) :=
 if (spF t).1.kind=3∧(spF t).1.name ∈ ofs then
  match j0O E (spF t).1.name with
  |none=>none
  |some e=>if e.kind=6∧¬ e.val.kind=0∧((j1c t).length:Int)=e.fixd + e.flds then some (e,j1c t) else none
 else none
def j5P (e:En):Int:=e.fixd + 1 + e.ctors.length
abbrev Rdx:Type:=Option (Int × Option Tm)
def jl5 (E:Nv) (hd:Tm→M Tm) (c:Tm) (e:En) (args:List Tm):M Rdx :=
 if (args.length:Int) ≤ j5P e + e.idx then mok none
 else bnd (hd (args.getD (j5P e + e.idx).toNat tz)) fun x=>match jat E x e.ctors with
  |none=>mok none
  |some (k,fs)=>mok (some (4,appO (j1x k.val c.levels) (args.take (j5P e).toNat ++ (fs.drop k.fixd.toNat ++ args.drop (j5P e + e.idx + 1).toNat))))
def j2b (E:Nv) (hd:Tm→M Tm) (c:Tm) (args:List Tm):M Rdx:=match j0O E c.name with
 |none=>mok none
 |some e=>if ¬ (c.levels.length:Int)=e.pars then mok none else if e.kind=2 then mok (some (3,appO (okO (j2d E c.name c.levels)) args)) else if e.kind=7 then jl5 E hd c e args else mok none
def jpg (E:Nv) (hd:Tm→M Tm) (h:Tm) (args:List Tm):M Rdx :=
 if h.kind=5∧¬ args.length=0 then mok (some (1,appO (InstF (h.arg 1) [args.getD 0 tz]) (args.drop 1)))
 else if h.kind=7 then mok (some (2,appO (InstF (h.arg 2) [h.arg 1]) args))
 else if h.kind=3 then j2b E hd h args else mok none
def jiW (E:Nv) (hd:Tm→M Tm) (t:Tm):M Rdx:=jpg E hd (spF t).1 (j1c t)
def j8n (o:Option Tm):M Tm:=bnd j4p fun _=>bnd (optF o 15) fun out=>bnd (j2O (decide (j0x out ≤ 2000)) 15) fun _=>mok out
def headB (E:Nv) (hd:Tm→M Tm) (t:Tm):M Tm:=bnd (jiW E hd t) fun r=>match r with
 |none=>mok t
 |some (_,o)=>bnd (j8n o) hd
noncomputable def jeK (E:Nv) (n:Nat):Tm→M Tm:=Nat.rec (motive:=fun _=>Tm→M Tm) (fun _ _=>none) (fun _ hd t=>headB E hd t) n
theorem jhS (E:Nv) (n:Nat) (t:Tm):jeK E (n + 1) t=headB E (jeK E n) t:=rfl
noncomputable def ja8 (E:Nv) (n:Nat) (t:Tm):M Tm:=bnd (j2O (jaz t) 10) fun _=>jeK E n t
section
variable {E:Nv}
theorem jjC {hd:Tm→M Tm} (h:∀ t,Fine (hd t)) (c:Tm) (e:En) (args:List Tm):Fine (jl5 E hd c e args):=by
 unfold jl5
 split
 ·exact j0p _
 ·refine j0b (h _) fun x=>?_
  split <;> exact j0p _
theorem jhV {hd:Tm→M Tm} (h:∀ t,Fine (hd t)) (c:Tm) (args:List Tm):Fine (j2b E hd c args):=by
 unfold j2b
 split
 ·exact j0p _
 ·(repeat' split) <;> first|exact j0p _|exact jjC h _ _ _
theorem j9O {hd:Tm→M Tm} (h:∀ t,Fine (hd t)) (t:Tm):Fine (jiW E hd t):=by
 unfold jiW jpg
 split
 ·exact j0p _
 ·split
  ·exact j0p _
  ·split
   ·exact jhV h _ _
   ·exact j0p _
theorem jd9 (o:Option Tm):Fine (j8n o):=j0b j2W fun _=>j0b (jgH (by omega)) fun _=>j0b (j0W (by omega)) fun _=>j0p _
theorem jiy {hd:Tm→M Tm} (h:∀ t,Fine (hd t)) (t:Tm):Fine (headB E hd t):=by
 refine j0b (j9O h t) fun r=>?_
 split
 ·exact j0p _
 ·exact j0b (jd9 _) h
theorem j6q {α:Type}:Fine (α:=α) (fun _=>none):=⟨fun l r l' h0 h=>(by cases h),fun l r l' k h0 hk h hr=>(by cases h),fun l l' k h0 hk h=>(by cases h),fun l l' h=>(by cases h)⟩
theorem j6X:∀ (n:Nat) (t:Tm),Fine (jeK E n t)
 |0,_=>j6q
 |n + 1,t=>jiy (j6X n) t
theorem j1E (n:Nat) (t:Tm):Fine (ja8 E n t):=j0b (j0W (by omega)) fun _=>j6X n t
end
open Go Go.Am Go.Gw
def j4b (o:Option Tm):M Tm:=bnd (optF o 15) fun x=>bnd (j2O (decide (j0x x ≤ 2000)) 15) fun _=>mok x
def j5S (l:Lv):M Lv:=bnd (j2O (j0w l 4) 15) fun _=>mok l
def j7u (ctx:List Tm) (t:Tm):M (List Tm):=bnd (j2O (decide (ctx.length < 64)) 15) fun _=>mok (ctx ++ [t])
section
variable (E:Nv) (W:Tm→M Tm) (T:List Tm→Tm→M Tm)
def sortB (ctx:List Tm) (t:Tm):M Lv:=bnd j4p fun _=>bnd (T ctx t) fun x=>bnd (W x) fun s=>bnd (j2O (decide (s.kind=2)) 19) fun _=>mok s.lv
def typB (ctx:List Tm) (t:Tm):M Tm:=bnd j4p fun _ =>
 if t.kind=1 then bnd (j2O (decide (t.num < ctx.length)) 10) fun _=>j4b (j5H (ctx.getD ((ctx.length:Int) - 1 - t.num).toNat tz) (t.num + 1) 0)
 else if t.kind=2 then bnd (j5S (jfv t.lv)) fun l=>mok (jcE l)
 else if t.kind=3 then exF (typeAt E t.name t.levels)
 else if t.kind=4 then bnd (T ctx (t.arg 0)) fun y=>bnd (W y) fun f=>bnd (j2O (decide (f.kind=6)) 20) fun _=>j4b (InstF (f.arg 1) [t.arg 1])
 else if t.kind=5 then bnd (j7u ctx (t.arg 0)) fun c2=>bnd (T c2 (t.arg 1)) fun b=>j4b (some (overR 6 [t.arg 0] b))
 else if t.kind=6 then bnd (sortB W T ctx (t.arg 0)) fun l=>bnd (j7u ctx (t.arg 0)) fun c2=>bnd (sortB W T c2 (t.arg 1)) fun m=>bnd (j5S (j7I l m)) fun x=>mok (jcE x)
 else bnd (j4b (InstF (t.arg 2) [t.arg 1])) fun x=>T ctx x
def joa (ctx:List Tm) (t:Tm):M (Option Tm):=bnd j4p fun _=>bnd (T ctx t) fun ty=>bnd (sortB W T ctx ty) fun s=>mok (match jdy s with
 |true=>some ty
 |false=>none)
def ja2 (x:M (Option Tm)):M (Option Tm):=fun l=>match x l with
 |none=>none
 |some (.ok a,l')=>some (.ok a,l')
 |some (.error e,l')=>match decide (e=22) || decide (e=15) with
  |true=>some (.error e,l')
  |false=>some (.ok none,l')
def jfQ (ctx:List Tm) (t:Tm):M (Option Tm):=ja2 (joa W T ctx t)
end
noncomputable def typF (E:Nv) (n:Nat):List Tm→Tm→M Tm:=Nat.rec (motive:=fun _=>List Tm→Tm→M Tm) (fun _ _ _=>none) (fun m T ctx t=>typB E (ja8 E m) T ctx t) n
def j1C:List Lv→List Lv→Bool
 |[],[]=>true
 |l :: r,m :: s=>j8a l m && j1C r s
 |_,_=>false
def ja6 (a b:Tm):Bool:=decide (a.kind=b.kind) && ((decide (a.kind=1) && decide (a.num=b.num)) || (decide (a.kind=3) && (a.name == b.name && j1C a.levels b.levels)))
def j9l (S:Tm→Tm→M Bool):List Tm→List Tm→M Bool
 |a :: r,b :: s=>bnd (S a b) fun q=>match q with
  |true=>j9l S r s
  |false=>mok false
 |_,_=>mok true
def jkU (S:Tm→Tm→M Bool) (x y:List Tm):M Bool:=match decide (x.length=y.length) with
 |true=>j9l S x y
 |false=>mok false
section
variable (W:Tm→M Tm) (T:List Tm→Tm→M Tm) (S:List Tm→Tm→Tm→M Bool)
def j7y (ctx:List Tm) (a b:Tm):M Bool:=match ja6 (spF a).1 (spF b).1 with
 |true=>jkU (S ctx) (j1c a) (j1c b)
 |false=>mok false
def etaB (ctx:List Tm) (f t:Tm):M Bool:=bnd (j4b (j5H t 1 0)) fun up=>bnd (j7u ctx (f.arg 0)) fun c2=>bnd (j4b (some (appF up [.mk 1 0 [] [] []]))) fun u=>S c2 (f.arg 1) u
def j5T (ctx:List Tm) (a b:Tm):M Bool :=
 if a.kind=2∧b.kind=2 then mok (j8a a.lv b.lv)
 else if a.kind=b.kind∧(a.kind=6∨a.kind=5) then bnd (S ctx (a.arg 0) (b.arg 0)) fun q=>match q with
  |true=>bnd (j7u ctx (a.arg 0)) fun c2=>S c2 (a.arg 1) (b.arg 1)
  |false=>mok false
 else if a.kind=5 then etaB S ctx a b else if b.kind=5 then etaB S ctx b a else j7y S ctx a b
def j5e (ctx:List Tm) (a b:Tm):M Bool:=bnd (jfQ W T ctx a) fun p=>match p with
 |none=>mok false
 |some p=>bnd (jfQ W T ctx b) fun q=>match q with
  |none=>mok false
  |some q=>S ctx p q
def ja5 (a b:Tm):Bool:=decide ((spF a).1.kind=3) && (decide (0 < (j1c a).length) && (decide ((j1c a).length=(j1c b).length) && ja6 (spF a).1 (spF b).1))
def jfR (ctx:List Tm) (a b:Tm):M Bool:=match ja5 a b with
 |true=>j7y S ctx a b
 |false=>mok false
def j7X (ctx:List Tm) (a b x y:Tm):M Bool:=match ja5 a b && (eqTm a x && eqTm b y) with
 |true=>mok false
 |false=>j5T S ctx x y
def jmo (ctx:List Tm) (a b:Tm):M Bool:=bnd j4p fun _=>match eqTm a b with
 |true=>mok true
 |false=>bnd (jfR S ctx a b) fun ok=>match ok with
  |true=>mok true
  |false=>bnd (W a) fun x=>bnd (W b) fun y=>bnd (j7X S ctx a b x y) fun q=>match q with
   |true=>mok true
   |false=>j5e W T S ctx x y
end
noncomputable def joq (E:Nv) (n:Nat):List Tm→Tm→Tm→M Bool:=Nat.rec (motive:=fun _=>List Tm→Tm→Tm→M Bool) (fun _ _ _ _=>none) (fun m S ctx a b=>jmo (ja8 E m) (typF E m) S ctx a b) n
def ctxF:List Tm→Int→Bool
 |[],_=>true
 |t :: r,i=>j0L t 4 i && ctxF r (i + 1)
def j1h (ctx:List Tm) (ts:List Tm):Bool:=decide (ctx.length ≤ 64) && (ctxF ctx 0 && ts.all fun t=>j0L t 4 ctx.length)
noncomputable def jg2 (E:Nv) (n:Nat) (ctx:List Tm) (t:Tm):M Tm:=bnd (j2O (j1h ctx [t]) 10) fun _=>typF E n ctx t
noncomputable def jeq (E:Nv) (n:Nat) (ctx:List Tm) (a b:Tm):M Bool:=bnd (j2O (j1h ctx [a,b]) 10) fun _=>joq E n ctx a b
noncomputable def jqt (E:Nv) (n:Nat) (ctx:List Tm) (t:Tm):M Bool:=bnd (j2O (j1h ctx [t]) 10) fun _=>bnd (jfQ (ja8 E n) (typF E n) ctx t) fun p=>mok p.isSome
noncomputable def jqW (E:Nv) (n:Nat) (ctx:List Tm) (t:Tm):M Lv:=bnd (j2O (j1h ctx [t]) 10) fun _=>sortB (ja8 E n) (typF E n) ctx t
section
variable {E:Nv} {W:Tm→M Tm} {T:List Tm→Tm→M Tm} {S:List Tm→Tm→Tm→M Bool}
theorem j1W (o:Option Tm):Fine (j4b o):=j0b (jgH (by omega)) fun _=>j0b (j0W (by omega)) fun _=>j0p _
theorem j7k (l:Lv):Fine (j5S l):=j0b (j0W (by omega)) fun _=>j0p _
theorem j5b (ctx:List Tm) (t:Tm):Fine (j7u ctx t):=j0b (j0W (by omega)) fun _=>j0p _
theorem j4O (hW:∀ t,Fine (W t)) (hT:∀ c t,Fine (T c t)) (ctx:List Tm) (t:Tm):Fine (sortB W T ctx t):=j0b j2W fun _=>j0b (hT _ _) fun _=>j0b (hW _) fun _=>j0b (j0W (by omega)) fun _=>j0p _
theorem jdU (s:List UInt8) (bys:List Lv):typeAt E s bys ≠ .error 22∧typeAt E s bys ≠ .error 0:=by
 unfold typeAt jas
 split
 ·constructor <;> intro e <;> cases e
 ·dsimp only
  unfold jf3
  split
  ·unfold atF
   split
   ·constructor <;> intro e <;> cases e
   ·split <;> constructor <;> intro e <;> cases e
  ·constructor <;> intro e <;> cases e
theorem jlh (hW:∀ t,Fine (W t)) (hT:∀ c t,Fine (T c t)) (ctx:List Tm) (t:Tm):Fine (typB E W T ctx t):=by
 refine j0b j2W fun _=>?_
 split
 ·exact j0b (j0W (by omega)) fun _=>j1W _
 ·split
  ·exact j0b (j7k _) fun _=>j0p _
  ·split
   ·exact jog (jdU _ _)
   ·split
    ·exact j0b (hT _ _) fun _=>j0b (hW _) fun _=>j0b (j0W (by omega)) fun _=>j1W _
    ·split
     ·exact j0b (j5b _ _) fun _=>j0b (hT _ _) fun _=>j1W _
     ·split
      ·exact j0b (j4O hW hT _ _) fun _=>j0b (j5b _ _) fun _=>j0b (j4O hW hT _ _) fun _=>j0b (j7k _) fun _=>j0p _
      ·exact j0b (j1W _) fun _=>hT _ _
theorem j5B:∀ (n:Nat) (ctx:List Tm) (t:Tm),Fine (typF E n ctx t)
 |0,_,_=>j6q
 |n + 1,ctx,t=>jlh (j1E n) (j5B n) ctx t
theorem j3F {x:M (Option Tm)} {l l':Int} {r:Except Int (Option Tm)} (h:ja2 x l=some (r,l')):(∃ a,x l=some (.ok a,l')∧r = .ok a)∨(∃ e,(e=22∨e=15)∧x l=some (.error e,l')∧r = .error e)∨∃ e,¬ (e=22∨e=15)∧x l=some (.error e,l')∧r = .ok none:=by
 unfold ja2 at h
 split at h
 ·cases h
 ·rename_i a l1 hx
  cases h
  exact .inl ⟨a,hx,rfl⟩
 ·rename_i e l1 hx
  split at h
  ·rename_i hb
   cases h
   exact .inr (.inl ⟨e,by simpa using hb,hx,rfl⟩)
  ·rename_i hb
   cases h
   exact .inr (.inr ⟨e,by simpa using hb,hx,rfl⟩)
theorem jhy {x:M (Option Tm)} (hx:Fine x):Fine (ja2 x):=by
 refine ⟨fun l r l' h0 h=>?_,fun l r l' k h0 hk h hr=>?_,fun l l' k h0 hk h=>?_,fun l l' h=>?_⟩
 ·rcases j3F h with ⟨a,h1,-⟩|⟨e,-,h1,-⟩|⟨e,-,h1,-⟩ <;> exact hx.dn l _ l' h0 h1
 ·rcases j3F h with ⟨a,h1,rfl⟩|⟨e,he,h1,rfl⟩|⟨e,he,h1,rfl⟩
  ·have:=hx.more l _ l' k h0 hk h1 (by simp)
   simp only [ja2,this]
  ·have:=hx.more l _ l' k h0 hk h1 (fun e'=>hr e')
   simp only [ja2,this]
   have e15:e=15:=by
    rcases he with rfl|rfl
    ·exact absurd rfl hr
    ·rfl
   subst e15
   rfl
  ·have:=hx.more l _ l' k h0 hk h1 (fun e'=>he (.inl (by cases e'; rfl)))
   simp only [ja2,this]
   have:(decide (e=22) || decide (e=15))=false:=by simpa using he
   rw [this]
 ·rcases j3F h with ⟨a,h1,h2⟩|⟨e,he,h1,h2⟩|⟨e,he,h1,h2⟩
  ·cases h2
  ·cases h2
   obtain ⟨a1,a2⟩:=hx.out l l' k h0 hk h1
   refine ⟨a1,fun r2 l2 h'=>?_⟩
   rcases j3F h' with ⟨a,h1,-⟩|⟨e,-,h1,-⟩|⟨e,-,h1,-⟩ <;> exact a2 _ _ h1
  ·cases h2
 ·rcases j3F h with ⟨a,h1,h2⟩|⟨e,he,h1,h2⟩|⟨e,he,h1,h2⟩
  ·cases h2
  ·cases h2
   exact hx.nz _ _ h1
  ·cases h2
theorem j9e (hW:∀ t,Fine (W t)) (hT:∀ c t,Fine (T c t)) (ctx:List Tm) (t:Tm):Fine (jfQ W T ctx t) :=
 jhy (j0b j2W fun _=>j0b (hT _ _) fun _=>j0b (j4O hW hT _ _) fun _=>j0p _)
theorem j8N {S:Tm→Tm→M Bool} (h:∀ a b,Fine (S a b)):∀ (x y:List Tm),Fine (j9l S x y)
 |a :: r,b :: s=>j0b (h a b) fun q=>(match q with
  |true=>j8N h r s
  |false=>j0p _)
 |[],_=>j0p _
 |_ :: _,[]=>j0p _
theorem j6f (hS:∀ c a b,Fine (S c a b)) (ctx:List Tm) (a b:Tm):Fine (j7y S ctx a b):=by
 unfold j7y jkU
 split
 ·split
  ·exact j8N (hS _) _ _
  ·exact j0p _
 ·exact j0p _
theorem jhv (hS:∀ c a b,Fine (S c a b)) (ctx:List Tm) (a b:Tm):Fine (etaB S ctx a b):=j0b (j1W _) fun _=>j0b (j5b _ _) fun _=>j0b (j1W _) fun _=>hS _ _ _
theorem jbl (hS:∀ c a b,Fine (S c a b)) (ctx:List Tm) (a b:Tm):Fine (j5T S ctx a b):=by
 unfold j5T
 split
 ·exact j0p _
 ·split
  ·refine j0b (hS _ _ _) fun q=>?_
   split
   ·exact j0b (j5b _ _) fun _=>hS _ _ _
   ·exact j0p _
  ·split
   ·exact jhv hS _ _ _
   ·split
    ·exact jhv hS _ _ _
    ·exact j6f hS _ _ _
theorem jf7 (hW:∀ t,Fine (W t)) (hT:∀ c t,Fine (T c t)) (hS:∀ c a b,Fine (S c a b)) (ctx:List Tm) (a b:Tm):Fine (j5e W T S ctx a b):=by
 refine j0b (j9e hW hT _ _) fun p=>?_
 split
 ·exact j0p _
 ·refine j0b (j9e hW hT _ _) fun q=>?_
  split
  ·exact j0p _
  ·exact hS _ _ _
theorem jid (hW:∀ t,Fine (W t)) (hT:∀ c t,Fine (T c t)) (hS:∀ c a b,Fine (S c a b)) (ctx:List Tm) (a b:Tm):Fine (jmo W T S ctx a b):=by
 refine j0b j2W fun _=>?_
 split
 ·exact j0p _
 ·refine j0b ?_ fun ok=>?_
  ·unfold jfR
   split
   ·exact j6f hS _ _ _
   ·exact j0p _
  ·split
   ·exact j0p _
   ·refine j0b (hW _) fun _=>j0b (hW _) fun _=>j0b ?_ fun q=>?_
    ·unfold j7X
     split
     ·exact j0p _
     ·exact jbl hS _ _ _
    ·split
     ·exact j0p _
     ·exact jf7 hW hT hS _ _ _
theorem j7i:∀ (n:Nat) (ctx:List Tm) (a b:Tm),Fine (joq E n ctx a b)
 |0,_,_,_=>j6q
 |n + 1,ctx,a,b=>jid (j1E n) (j5B n) (j7i n) ctx a b
end
end Go.Proofs.YtljnahbgfmflaaaGreatDoor

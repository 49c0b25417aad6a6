/-
  Terms made anew (package bind). No statement of the seat.
-/
import Derived.Test.YtehhihdahalfeaaGreatDoorZTf
set_option linter.unusedVariables false
set_option linter.unusedSimpArgs false
set_option linter.unnecessarySimpa false
namespace Go.Proofs.YtehhihdahalfeaaGreatDoor
open Go Go.Am Go.Gw
/-- what is made of a term, if its arguments come to so much -/
def bldN (put:Tm→Int→Option Tm) (t:Tm) (d left:Int) (r:List Tm × Int):Tm × Int:=if left < 0 then (tz,left) else match put t d with
  |some x=>(x,left - nodesT x)
  |none=>if t.args.length=0 then (t,left - nodesT t) else (.mk t.kind 0 [] [] r.1,r.2)
mutual
def bldF (put:Tm→Int→Option Tm):Tm→Int→Int→Tm × Int
  | .mk k n s ls ts,d,left=>bldN put (.mk k n s ls ts) d left (bldFs put ts k 0 d (left - 1))
def bldFs (put:Tm→Int→Option Tm):List Tm→Int→Int→Int→Int→List Tm × Int
  |[],_,_,_,left=>([],left)
  |t :: r,k,i,d,left=>((bldF put t (innerF (shBinds k) i d) left).1 :: (bldFs put r k (i + 1) d (bldF put t (innerF (shBinds k) i d) left).2).1,(bldFs put r k (i + 1) d (bldF put t (innerF (shBinds k) i d) left).2).2)
end
section
variable {put:Tm→Int→Option Tm} {t x:Tm} {d left:Int} {r:List Tm × Int}
theorem bldN_neg (h:left < 0):bldN put t d left r=(tz,left):=if_pos h
theorem bldN_put (h:¬ left < 0) (hp:put t d=some x):bldN put t d left r=(x,left - nodesT x):=by rw [bldN,if_neg h,hp]
theorem bldN_leaf (h:¬ left < 0) (hp:put t d=none) (ha:t.args.length=0):bldN put t d left r=(t,left - nodesT t):=by rw [bldN,if_neg h,hp]; exact if_pos ha
theorem bldN_node (h:¬ left < 0) (hp:put t d=none) (ha:¬ t.args.length=0):bldN put t d left r=(.mk t.kind 0 [] [] r.1,r.2):=by rw [bldN,if_neg h,hp]; exact if_neg ha
end
theorem nodesT_bd (t:Tm):0 ≤ nodesT t∧nodesT t ≤ 2001:=by rw [nodesT_eq]; omega
mutual
theorem bldF_left (put:Tm→Int→Option Tm):∀ (t:Tm) (d left:Int),-2001 ≤ left→-2001 ≤ (bldF put t d left).2∧(bldF put t d left).2 ≤ left
  | .mk k n s ls ts,d,left,h=>by
    rw [bldF]
    by_cases h0:left < 0
    · rw [bldN_neg h0]
      dsimp only
      omega
    · cases hp:put (.mk k n s ls ts) d with
      |some x =>
        rw [bldN_put h0 hp]
        have:=nodesT_bd x
        dsimp only
        omega
      |none =>
        by_cases ha:ts.length=0
        · rw [bldN_leaf h0 hp ha]
          have:=nodesT_bd (.mk k n s ls ts)
          dsimp only
          omega
        · rw [bldN_node h0 hp ha]
          have:=bldFs_left put ts k 0 d (left - 1) (by omega)
          dsimp only
          omega
theorem bldFs_left (put:Tm→Int→Option Tm):∀ (ts:List Tm) (k i d left:Int),-2001 ≤ left→-2001 ≤ (bldFs put ts k i d left).2∧(bldFs put ts k i d left).2 ≤ left
  |[],k,i,d,left,h=>by simp only [bldFs]; omega
  |t :: r,k,i,d,left,h=>by
    simp only [bldFs]
    have h1:=bldF_left put t (innerF (shBinds k) i d) left h
    have h2:=bldFs_left put r k (i + 1) d (bldF put t (innerF (shBinds k) i d) left).2 h1.1
    omega
end
theorem nodeT_var {k n:Int} {s:List UInt8} {ls:List Lv} {ts:List Tm} {kk:Int} (h:nodeT (.mk k n s ls ts) kk=true) (hk:k=1):0 ≤ n∧n < kk:=by
  simp only [nodeT,if_pos hk,Bool.and_eq_true,decide_eq_true_eq] at h
  exact ⟨h.1,h.2.1⟩
end Go.Proofs.YtehhihdahalfeaaGreatDoor

/- Levels and terms as bytes: that they are made; which terms have bytes. -/
import Derived.Test.YtnfbeplfnblgjaaGreatDoorZKa
import Derived.Test.YtnfbeplfnblgjaaGreatDoorZTf
set_option linter.all false
namespace Go.Proofs.YtnfbeplfnblgjaaGreatDoor
open Go Go.Am Go.Gw
theorem j7w{ls:List Lv}{i:Nat}{l:Lv}{p:Int}(h:j2f ls p=true)(e:ls[i]?=some l):allF l p=true:=by
 induction ls generalizing i with
 |nil=>simp at e
 |cons a r ih=>
  simp only[j2f,Bool.and_eq_true] at h;cases i with
  |zero=>simp at e;subst e;exact h.1
  |succ i=>exact ih h.2 (by simpa using e)
mutual
def jec:Tm→Bool
 | .mk k n _ _ ts=>(!decide (k=1)||decide (n<1099511627776))&&jc9 ts
def jc9:List Tm→Bool
 |[]=>true
 |t::r=>jec t&&jc9 r
end
end Go.Proofs.YtnfbeplfnblgjaaGreatDoor

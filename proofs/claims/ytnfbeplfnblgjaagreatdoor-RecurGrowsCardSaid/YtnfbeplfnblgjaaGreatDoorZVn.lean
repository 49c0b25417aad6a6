/- Families of seven constructors without fields, reckoned. -/
import Derived.Test.YtnfbeplfnblgjaaGreatDoorZVi
set_option linter.all false
set_option maxRecDepth 1000000
namespace Go.Proofs.YtnfbeplfnblgjaaGreatDoor
open Go Go.Am Go.Gw
theorem jet:okN 7 true=true:=by kernel_rfl
theorem jes:okN 7 false=true:=by kernel_rfl
end Go.Proofs.YtnfbeplfnblgjaaGreatDoor

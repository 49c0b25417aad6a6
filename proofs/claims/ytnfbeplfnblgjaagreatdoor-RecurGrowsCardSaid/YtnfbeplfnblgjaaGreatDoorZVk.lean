/- Families of four and five constructors without fields, reckoned. -/
import Derived.Test.YtnfbeplfnblgjaaGreatDoorZVi
set_option linter.all false
set_option maxRecDepth 1000000
namespace Go.Proofs.YtnfbeplfnblgjaaGreatDoor
open Go Go.Am Go.Gw
theorem jen:okN 4 true=true:=by kernel_rfl
theorem jem:okN 4 false=true:=by kernel_rfl
theorem jep:okN 5 true=true:=by kernel_rfl
end Go.Proofs.YtnfbeplfnblgjaaGreatDoor

/- Families of five and six constructors without fields, reckoned. -/
import Derived.Test.YtnfbeplfnblgjaaGreatDoorZVi
set_option linter.all false
set_option maxRecDepth 1000000
namespace Go.Proofs.YtnfbeplfnblgjaaGreatDoor
open Go Go.Am Go.Gw
theorem jeo:okN 5 false=true:=by kernel_rfl
theorem jer:okN 6 true=true:=by kernel_rfl
theorem jeq:okN 6 false=true:=by kernel_rfl
end Go.Proofs.YtnfbeplfnblgjaaGreatDoor

/- Families of up to three constructors without fields, reckoned. -/
import Derived.Test.YtnfbeplfnblgjaaGreatDoorZVi
set_option linter.all false
set_option maxRecDepth 1000000
namespace Go.Proofs.YtnfbeplfnblgjaaGreatDoor
open Go Go.Am Go.Gw
theorem jef:okN 0 true=true:=by kernel_rfl
theorem jee:okN 0 false=true:=by kernel_rfl
theorem jeh:okN 1 true=true:=by kernel_rfl
theorem jeg:okN 1 false=true:=by kernel_rfl
theorem jej:okN 2 true=true:=by kernel_rfl
theorem jei:okN 2 false=true:=by kernel_rfl
theorem jel:okN 3 true=true:=by kernel_rfl
theorem jek:okN 3 false=true:=by kernel_rfl
end Go.Proofs.YtnfbeplfnblgjaaGreatDoor

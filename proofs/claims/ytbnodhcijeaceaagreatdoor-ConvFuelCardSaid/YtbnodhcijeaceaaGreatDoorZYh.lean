/- The row's forced cells of ConvFuel, one theorem each. -/
import Derived.Test.YtbnodhcijeaceaaGreatDoorRows
import Derived.JoinedOf
set_option linter.all false
set_option maxRecDepth 100000
namespace Go.Proofs.YtbnodhcijeaceaaGreatDoor.convFuel
open Go
theorem kA:Rows.convFuelRow.inPlace=Tryz.prog.inPlace 3:=by kernel_rfl
theorem kB:Rows.convFuelRow.unfollowed=Tryz.prog.unfollowed 3:=by kernel_rfl
theorem kC:Rows.convFuelRow.recurses=Tryz.prog.recurses 3:=by kernel_rfl
theorem kD:Rows.convFuelRow.named=Tryz.prog.varsNamed 3:=by kernel_rfl
open Go
theorem closed:joinedFacts Tryz.prog 3 Tryz.f3 Rows.convFuelSpec Rows.convFuelRow=true:=by
 unfold joinedFacts;rw[←kA,←kB,←kC,←kD]
 kernel_rfl
end Go.Proofs.YtbnodhcijeaceaaGreatDoor.convFuel

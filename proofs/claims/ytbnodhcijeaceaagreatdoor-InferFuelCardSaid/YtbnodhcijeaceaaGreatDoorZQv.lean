/- The row's forced cells of InferFuel, one theorem each. -/
import Derived.Test.YtbnodhcijeaceaaGreatDoorRows
import Derived.JoinedOf
set_option linter.all false
set_option maxRecDepth 100000
namespace Go.Proofs.YtbnodhcijeaceaaGreatDoor.inferFuel
open Go
theorem kA:Rows.inferFuelRow.inPlace=Tryz.prog.inPlace 4:=by kernel_rfl
theorem kB:Rows.inferFuelRow.unfollowed=Tryz.prog.unfollowed 4:=by kernel_rfl
theorem kC:Rows.inferFuelRow.recurses=Tryz.prog.recurses 4:=by kernel_rfl
theorem kD:Rows.inferFuelRow.named=Tryz.prog.varsNamed 4:=by kernel_rfl
open Go
theorem closed:joinedFacts Tryz.prog 4 Tryz.f4 Rows.inferFuelSpec Rows.inferFuelRow=true:=by
 unfold joinedFacts;rw[←kA,←kB,←kC,←kD]
 kernel_rfl
end Go.Proofs.YtbnodhcijeaceaaGreatDoor.inferFuel

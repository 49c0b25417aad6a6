/- The row's forced cells of AdmitFuel, one theorem each. -/
import Derived.Test.YtbnodhcijeaceaaGreatDoorRows
import Derived.JoinedOf
set_option linter.all false
set_option maxRecDepth 100000
namespace Go.Proofs.YtbnodhcijeaceaaGreatDoor.admitFuel
open Go
theorem kA:Rows.admitFuelRow.inPlace=Tryz.prog.inPlace 5:=by kernel_rfl
theorem kB:Rows.admitFuelRow.unfollowed=Tryz.prog.unfollowed 5:=by kernel_rfl
theorem kC:Rows.admitFuelRow.recurses=Tryz.prog.recurses 5:=by kernel_rfl
theorem kD:Rows.admitFuelRow.named=Tryz.prog.varsNamed 5:=by kernel_rfl
open Go
theorem closed:joinedFacts Tryz.prog 5 Tryz.f5 Rows.admitFuelSpec Rows.admitFuelRow=true:=by
 unfold joinedFacts;rw[←kA,←kB,←kC,←kD]
 kernel_rfl
end Go.Proofs.YtbnodhcijeaceaaGreatDoor.admitFuel

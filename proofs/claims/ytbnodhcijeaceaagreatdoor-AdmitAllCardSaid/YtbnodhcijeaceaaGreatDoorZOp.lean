/- The row's forced cells of AdmitAll, one theorem each. -/
import Derived.Test.YtbnodhcijeaceaaGreatDoorRows
import Derived.JoinedOf
set_option linter.all false
set_option maxRecDepth 100000
namespace Go.Proofs.YtbnodhcijeaceaaGreatDoor.admitAll
open Go
theorem kA:Rows.admitAllRow.inPlace=Tryz.prog.inPlace 8:=by kernel_rfl
theorem kB:Rows.admitAllRow.unfollowed=Tryz.prog.unfollowed 8:=by kernel_rfl
theorem kC:Rows.admitAllRow.recurses=Tryz.prog.recurses 8:=by kernel_rfl
theorem kD:Rows.admitAllRow.named=Tryz.prog.varsNamed 8:=by kernel_rfl
open Go
theorem closed:joinedFacts Tryz.prog 8 Tryz.f8 Rows.admitAllSpec Rows.admitAllRow=true:=by
 unfold joinedFacts;rw[←kA,←kB,←kC,←kD]
 kernel_rfl
end Go.Proofs.YtbnodhcijeaceaaGreatDoor.admitAll

/-
  The row's forced cells of ConvIMax, one theorem each. No statement of the seat.
-/
import Derived.Test.YtljnahbgfmflaaaGreatDoorRows
import Derived.JoinedOf
set_option linter.unusedVariables false
set_option linter.unusedSimpArgs false
set_option linter.unnecessarySimpa false
namespace Go.Proofs.YtljnahbgfmflaaaGreatDoor.convIMax
open Go
theorem kA:Rows.convIMaxRow.inPlace=Tryz.prog.inPlace 4:=by kernel_rfl
theorem kB:Rows.convIMaxRow.unfollowed=Tryz.prog.unfollowed 4:=by kernel_rfl
theorem kC:Rows.convIMaxRow.recurses=Tryz.prog.recurses 4:=by kernel_rfl
theorem kD:Rows.convIMaxRow.named=Tryz.prog.varsNamed 4:=by kernel_rfl
end Go.Proofs.YtljnahbgfmflaaaGreatDoor.convIMax

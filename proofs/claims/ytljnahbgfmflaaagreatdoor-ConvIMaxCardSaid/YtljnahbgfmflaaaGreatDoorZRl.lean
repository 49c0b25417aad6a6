/-
  The row's forced cells of ConvIMax, all. No statement of the seat.
-/
import Derived.Test.YtljnahbgfmflaaaGreatDoorZRk
set_option linter.unusedVariables false
set_option maxRecDepth 100000
set_option linter.unusedSimpArgs false
set_option linter.unnecessarySimpa false
namespace Go.Proofs.YtljnahbgfmflaaaGreatDoor.convIMax
open Go
theorem closed:joinedFacts Tryz.prog 4 Tryz.f4 Rows.convIMaxSpec Rows.convIMaxRow=true:=by
 unfold joinedFacts
 rw [← kA,← kB,← kC,← kD]
 kernel_rfl
end Go.Proofs.YtljnahbgfmflaaaGreatDoor.convIMax

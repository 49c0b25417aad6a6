/-
  Terms made anew with others in their variables' places. No statement of the seat.
-/
import Derived.Test.YtehhihdahalfeaaGreatDoorZTw
set_option linter.unusedVariables false
set_option linter.unusedSimpArgs false
set_option linter.unnecessarySimpa false
namespace Go.Proofs.YtehhihdahalfeaaGreatDoor
open Go Go.Am Go.Gw
end Go.Proofs.YtehhihdahalfeaaGreatDoor

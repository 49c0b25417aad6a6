/- With more ticks what was answered is answered so (infer): the plain law. -/
import Derived.Test.YtbnodhcijeaceaaGreatDoorXQa
set_option linter.all false
namespace Go.Proofs.YtbnodhcijeaceaaGreatDoor
open Go Go.Am Go.Gw
def j5L{E:Nv}(n:Nat)(c:List Tm)(t:Tm):Fine (j6E E n c t):=j08 (j0y (by omega)) fun _=>j0W n c t

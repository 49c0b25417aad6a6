/- The names of an environment, as they were added; the law of declarations taken in together, walked. -/
import Derived.Test.YtbnodhcijeaceaaGreatDoorXOg
set_option linter.all false
namespace Go.Proofs.YtbnodhcijeaceaaGreatDoor
open Go Go.Am Go.Gw
def ordS(don:List (List UInt8)):Sto:=match don with
 |[]=>[]
 |d::r=>[.dead,.row false 9 1 (svs (d::r))]
def ordV(don:List (List UInt8)):PV:=match don with
 |[]=>.sl true 0 []
 |_::r=>.ms 1 (r.length+1)
open Go Go.Am Go.Gw

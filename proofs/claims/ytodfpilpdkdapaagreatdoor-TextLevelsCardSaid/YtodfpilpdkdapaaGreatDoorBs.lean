/-
  What is laid ahead of a run and stays: tables of the library. Plain definitions, no statement of the seat.
-/
import Derived.Lib.LaidTab
import Derived.Lib.ItoaLen
import Derived.Test.YtodfpilpdkdapaaGreatDoorGwo
namespace Go.Hb
open Go
def base (b : Nat) : Option (Array Value) :=
  if b = 0 then some (Lib.pow10Tab.map fun z => Value.int .u64 z).toArray else
  none
end Go.Hb

/- Equality of structs of whole numbers and rows of them, in the plain machine. Plain lemmas, no statement of the seat. -/
import Derived.Test.YtnfbeplfnblgjaaGreatDoorZTc
set_option linter.all false
namespace Go.Proofs.YtnfbeplfnblgjaaGreatDoor
open Go Go.Am Go.Gw
def fiv(a0 a1 a2 a3 a4:Int):Array Value:=#[.int .i64 a0,.int .i64 a1,.int .i64 a2,.int .i64 a3,.int .i64 a4]
open Go Go.Am Go.Gw
def fmC(f:Fm):List PV:=[iv f.num,iv (f.off 0),iv (f.off 1),iv (f.off 2),iv (f.off 3)]
def fmV(f:Fm):PV:=.ag (fmC f)
def mx(x y:Int):Int:=if y>x then y else x
def lst(f:Fm):Nat→Int
 |0=>f.num
 |i+1=>if f.off i = -1 then lst f i else mx (lst f i) (f.off i+1)
open Go Go.Am Go.Gw
end Go.Proofs.YtnfbeplfnblgjaaGreatDoor

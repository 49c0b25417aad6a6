/- Bytes that are made of numbers and texts (wire, pack): that they are made; which they are is not asked. -/
import Derived.Test.YtnfbeplfnblgjaaGreatDoorZTc
set_option linter.all false
namespace Go.Proofs.YtnfbeplfnblgjaaGreatDoor
open Go Go.Am Go.Gw
def andI(a b:Int):Int:=IntKind.i64.wrap ((BitVec.ofInt 64 a &&& BitVec.ofInt 64 b).toNat:Int)
def orI(a b:Int):Int:=IntKind.i64.wrap ((BitVec.ofInt 64 a |||BitVec.ofInt 64 b).toNat:Int)
def jeZ(op:BinOp)(a b:Int)(K:PV→Prop):Prop:=match op with
 | .and=>K (iv (andI a b))
 | .or=>K (iv (orI a b))
 |_=>False
def toB(a:Int):PV:=.sc (.int .u8 (IntKind.u8.wrap a))
def bufP(xs:List PV):PV:=match xs with
 |[]=>.sl true 0 []
 |_::r=>.ms 0 (r.length+1)
def bufS(xs:List PV):Sto:=match xs with
 |[]=>[]
 |a::r=>[.row false 5 1 (a::r)]
def Put1(xs:List PV)(n:Nat)(r:AEnd)(st:Sto):Prop:=∃ys,r=.ret [bufP ys]∧st=bufS ys∧ys.all (pur 6)=true∧ys.length≤xs.length+n∧0<ys.length
def bsv(s:List UInt8):List PV:=s.map fun c=>.sc (.int .u8 c.toNat)
end Go.Proofs.YtnfbeplfnblgjaaGreatDoor

/- A plain machine: values without addresses, boxes and rows of a small store. Plain definitions (no statement of the seat): what a function answers there it answers in the model (shown elsewhere). -/
import Derived.Test.YtnfbeplfnblgjaaGreatDoorZHb
import Derived.Test.YtnfbeplfnblgjaaGreatDoorZGwa
set_option linter.all false
namespace Go.Am
open Go Go.Gw
inductive PV where
 |sc (v:Value)
 |ag (cs:List PV)
 |tu (vs:List PV)
 |sl (full:Bool) (sz:Nat) (xs:List PV)
 |ms (id len:Nat)
 |bp (id off:Nat)
 |rp (id len i off:Nat)
 |cp (cs:List PV)
 |ci (cs:List PV)
 |fn (f:FuncId) (first caps:List PV)
 |ifc (t:TypeId) (v:PV)
 |yl (id:Nat)
 |mr (id:Nat)
 |cr (id:Nat)
 |un
 deriving Inhabited
inductive LpS where
 |ready
 |busy
 |done (x:Option Nat)
 deriving Inhabited
inductive SO where
 |box (T:TypeId) (cs:List PV)
 |frz (cs:List PV)
 |row (pub:Bool) (e:TypeId) (sz:Nat) (xs:List PV)
 |dead
 |lp (ρ:List (Nat×PV)) (ps:List Nat) (a b:Code) (s:LpS)
 |mp (ks:List Value) (vs:List PV)
 |ch (cap:Nat) (q:List PV)
 deriving Inhabited
abbrev AEnv:=List (Nat×PV)
abbrev Sto:=List SO
def qrun(P:Program){α:Type}:Sem α→Option α
 | .pure a=>some a
 | .program k=>qrun P (k P)
 | .mark _ k=>qrun P k
 |_=>none
def isSc:Value→Bool
 | .bool _ | .int .. | .float .. | .complex .. | .string _ | .pointer none | .map none | .chan none | .nilFunc | .nilIface=>true
 |_=>false
def mapO{α β:Type}(f:α→Option β):List α→Option (List β)
 |[]=>some []
 |x::r=>match f x with
  |some y=>match mapO f r with
   |some l=>some (y::l)
   |none=>none
  |none=>none
def ofCell(v:Value):Option PV:=
 match v with
 | .slice none 0 0=>some (.sl true 0 [])
 |v=>match isSc v with
  |true=>some (.sc v)
  |false=>none
def ofVal:Value→Option PV
 | .agg cs=>(mapO ofCell cs.toList).map .ag
 |v=>ofCell v
def scOf:PV→Option Value
 | .sc v=>some v
 |_=>none
def toVal:PV→Option Value
 | .sc v=>some v
 | .ag cs=>(mapO scOf cs).map fun l=>.agg l.toArray
 |_=>none
def aget:AEnv→Nat→Option PV
 |[],_=>none
 |(k,v)::r,t=>match Nat.beq k t with
  |true=>some v
  |false=>aget r t
def adel(d:Nat):AEnv→AEnv
 |[]=>[]
 |(k,v)::r=>match Nat.beq k d with
  |true=>r
  |false=>(k,v)::adel d r
def aput(d:Option Nat)(v:PV)(ρ:AEnv):AEnv:=match d with
 |some d=>(d,v)::adel d ρ
 |none=>ρ
def aval(ρ:AEnv):Operand→Option PV
 | .tmp t=>aget ρ t
 | .const v=>ofVal v
 | .func f=>some (.fn f [] [])
 | .global _=>none
def PV.cells:PV→List PV
 | .ag cs=>cs
 |x=>[x]
def pur:Nat→PV→Bool
 |0,_=>false
 |n+1,v=>match v with
  | .sc _ | .sl .. | .cp _ | .un=>true
  | .ag cs | .tu cs=>cs.all (pur n)
  | .fn _ a b=>a.all (pur n)&&b.all (pur n)
  | .ifc _ x=>pur n x
  |_=>false
def nat? : PV→Option Nat
 | .sc (.int _ i)=>match i with
  | .ofNat q=>some q
  |_=>none
 |_=>none
def aPick(ρ:AEnv)(c a b:Operand):Option PV:=match aval ρ c with
 |some (.sc (.bool v))=>match v with
  |true=>aval ρ a
  |false=>aval ρ b
 |_=>none
def isPtr:PV→Bool
 | .bp .. | .rp .. | .cp _ | .ci _=>true
 |_=>false
def aNil(ρ:AEnv)(x:Operand):Option PV:=match aval ρ x with
 |some p=>match isPtr p with
  |true=>some p
  |false=>none
 |none=>none
def aExtract(ρ:AEnv)(x:Operand)(i:Nat):Option PV:=match aval ρ x with
 |some (.tu vs)=>vs[i]?
 |_=>none
def intBin(op:BinOp)(k:IntKind)(a b:Int):Option PV:=
 match op with
 | .add=>some (.sc (.int k (k.wrap (a+b))))
 | .sub=>some (.sc (.int k (k.wrap (a-b))))
 | .eql=>some (.sc (.bool (decide (a=b))))
 | .neq=>some (.sc (.bool (!decide (a=b))))
 | .lss=>some (.sc (.bool (decide (a<b))))
 | .leq=>some (.sc (.bool (decide (a≤b))))
 | .gtr=>some (.sc (.bool (decide (b<a))))
 | .geq=>some (.sc (.bool (decide (b≤a))))
 |_=>none
def fastBin(op:BinOp)(a b:PV):Option PV:=match a,b with
 | .sc (.int .i64 i),.sc (.int .i64 j)=>intBin op .i64 i j
 |_,_=>none
def isNil:PV→Bool
 | .sc (.pointer none)=>true
 |_=>false
def eqNil(P:Program)(T:TypeId)(a b:PV):Option Bool:=match P.underlying T with
 |some (.pointer _)=>match isPtr a&&isNil b||isPtr b&&isNil a with
  |true=>some false
  |false=>none
 |some (.interface _)=>match a,b with
  | .ifc ..,.sc .nilIface=>some false
  | .sc .nilIface,.ifc .. =>some false
  |_,_=>none
 |some (.func ..)=>match a,b with
  | .fn ..,.sc .nilFunc=>some false
  |_,_=>none
 |some (.slice _)=>match a,b with
  | .sl f sz xs,.sl true 0 []=>match xs with
   |[]=>match f&&Nat.beq sz 0 with
    |true=>some true
    |false=>none
   |_=>some false
  |_,_=>none
 |_=>none
def nilBin(P:Program)(T:TypeId)(op:BinOp)(a b:PV):Option PV:=match op with
 | .eql=>(eqNil P T a b).map fun r=>.sc (.bool r)
 | .neq=>(eqNil P T a b).map fun r=>.sc (.bool !r)
 |_=>none
def slowBin(P:Program)(op:BinOp)(T:TypeId)(x y:Operand)(a b:PV):Option PV:=match toVal a,toVal b with
 |some u,some v=>(qrun P (do eqGuard op T x y u v;binOp op T u v)).bind ofVal
 |_,_=>nilBin P T op a b
def aBin(P:Program)(ρ:AEnv)(op:BinOp)(T:TypeId)(x y:Operand):Option PV:=match aval ρ x,aval ρ y with
 |some a,some b=>match fastBin op a b with
  |some v=>some v
  |none=>slowBin P op T x y a b
 |_,_=>none
def aUn(P:Program)(ρ:AEnv)(op:UnOp)(x:Operand):Option PV:=match aval ρ x with
 |some (.sc u)=>(qrun P (Op.unary op u)).bind ofVal
 |_=>none
def u8Of:PV→Option UInt8
 | .sc (.int .u8 n)=>match n with
  | .ofNat q=>match Nat.blt q 256 with
   |true=>some (UInt8.ofNat q)
   |false=>none
  |_=>none
 |_=>none
def bytesT(P:Program)(T:TypeId):Bool:=match P.underlying T with
 |some (.slice e)=>match P.underlying e with
  |some (.int .u8)=>true
  |_=>false
 |_=>false
def strT(P:Program)(T:TypeId):Bool:=match P.underlying T with
 |some .string=>true
 |_=>false
def strB(P:Program)(s d:TypeId)(xs:List PV):Option PV:=match bytesT P s&&strT P d with
 |true=>(mapO u8Of xs).map fun l=>.sc (.string ⟨l.toArray⟩)
 |false=>none
def aConv(P:Program)(ρ:AEnv)(s d:TypeId)(x:Operand):Option PV:=match strT P s&&bytesT P d with
 |true=>none
 |false=>match aval ρ x with
  |some (.sc u)=>(qrun P (convert s d u)).bind ofVal
  |some (.sl _ _ xs)=>strB P s d xs
  |_=>none
def aIface(P:Program)(ρ:AEnv)(T:TypeId)(x:Operand):Option PV:=match P.underlying T with
 |some (.interface _)=>none
 |some _=>(aval ρ x).map (.ifc T)
 |none=>none
def aFn(ρ:AEnv)(f:Fn)(a b:Array Operand):Option PV:=match f with
 | .func f=>match mapO (aval ρ) a.toList,mapO (aval ρ) b.toList with
  |some a,some b=>some (.fn f a b)
  |_,_=>none
 |_=>none
def optN(d:Nat):Option PV→Option Nat
 |none=>some d
 |some v=>nat? v
def sliceP(full:Bool)(sz:Nat)(xs:List PV)(lo hi mx:Option PV):Option PV:=
 match optN xs.length hi,optN 0 lo with
 |some h,some l=>match Nat.ble h xs.length&&Nat.ble l h with
  |true=>match mx with
   |none=>some (.sl (full&&Nat.beq h xs.length) sz ((xs.take h).drop l))
   |some m=>match nat? m,hi with
    |some m,some _=>match Nat.beq m h&&(Nat.blt 0 sz||full) with
     |true=>some (.sl true sz ((xs.take h).drop l))
     |false=>none
    |_,_=>none
  |false=>none
 |_,_=>none
def optV(ρ:AEnv):Option Operand→Option (Option PV)
 |none=>some none
 |some x=>(aval ρ x).map some
def optS:Option PV→Option (Option Value)
 |none=>some none
 |some v=>(scOf v).map some
def strSlice(P:Program)(T:TypeId)(u:Value)(lo hi mx:Option PV):Option PV:=match mx with
 |none=>match optS lo,optS hi with
  |some lo,some hi=>(qrun P (Instr.sliceAt T u lo hi none)).bind ofVal
  |_,_=>none
 |some _=>none
def szOk(P:Program)(T:TypeId)(sz:Nat)(xs:List PV):Bool:=match tsl P T with
 |some (_,z)=>Nat.beq z sz||xs.isEmpty
 |none=>false
def aSlice(P:Program)(ρ:AEnv)(T:TypeId)(x:Operand)(lo hi mx:Option Operand):Option PV:=
 match optV ρ lo,optV ρ hi,optV ρ mx with
 |some lo,some hi,some mx=>match aval ρ x with
  |some (.sc u)=>strSlice P T u lo hi mx
  |some (.sl full sz xs)=>match szOk P T sz xs with
   |true=>sliceP full sz xs lo hi mx
   |false=>none
  |_=>none
 |_,_,_=>none
def shiftP(o:Nat):PV→Option PV
 | .bp id off=>some (.bp id (off+o))
 | .rp id len i off=>some (.rp id len i (off+o))
 | .cp cs=>some (.cp (cs.drop o))
 | .ci cs=>some (.ci (cs.drop o))
 |_=>none
def aFieldAddr(P:Program)(ρ:AEnv)(T:TypeId)(x:Operand)(f:Nat):Option PV:=match tf P T f,aval ρ x with
 |some o,some p=>shiftP o p
 |_,_=>none
def loadP(ag:Bool)(cs:List PV)(off k:Nat):Option PV:=
 match ag with
 |true=>match Nat.ble (off+k) cs.length with
  |true=>some (.ag ((cs.drop off).take k))
  |false=>none
 |false=>cs[off]?
def fieldAt(P:Program)(T:TypeId)(f:Nat):Option (Bool×Nat×Nat):=match P.underlying T with
 |some (.struct fs)=>match fs[f]? with
  |some fd=>match tk P fd.type with
   |some (ag,k)=>some (ag,fd.offset,k)
   |none=>none
  |none=>none
 |_=>none
def aField(P:Program)(ρ:AEnv)(T:TypeId)(x:Operand)(f:Nat):Option PV:=match fieldAt P T f,aval ρ x with
 |some (ag,off,k),some (.ag cs)=>loadP ag cs off k
 |_,_=>none
def idxAddr(P:Program)(T:TypeId)(a:PV)(q:Nat):Option PV:=match a with
 | .sl _ sz xs=>match xs[q]? with
  |some v=>match szOk P T sz xs with
   |true=>some (.cp v.cells)
   |false=>none
  |none=>none
 | .ms .. =>none
 |_=>match tar P T with
  |some (n,_,z)=>match Nat.blt q n with
   |true=>shiftP (q*z) a
   |false=>none
  |none=>none
def aIndexAddr(P:Program)(ρ:AEnv)(T:TypeId)(x i:Operand):Option PV:=match aval ρ x,aval ρ i with
 |some a,some i=>match nat? i with
  |some q=>idxAddr P T a q
  |none=>none
 |_,_=>none
def aIndex(P:Program)(ρ:AEnv)(T:TypeId)(x i:Operand):Option PV:=match aval ρ x,aval ρ i with
 |some (.sc u),some (.sc j)=>(qrun P (Instr.index T u j)).bind ofVal
 |some (.ag cs),some i=>match tar P T,nat? i with
  |some (n,e,z),some q=>match tk P e,Nat.blt q n with
   |some (ag,_),true=>loadP ag cs (q*z) z
   |_,_=>none
  |_,_=>none
 |_,_=>none
def aAssert(P:Program)(ρ:AEnv)(x:Operand)(T:TypeId)(ok:Bool):Option PV:=match P.underlying T with
 |some (.interface _)=>none
 |some _=>match aval ρ x with
  |some (.ifc t v)=>match Nat.beq t T with
   |true=>match ok with
    |true=>some (.tu [v,.sc (.bool true)])
    |false=>some v
   |false=>none
  |_=>none
 |none=>none
def updP(cs:List PV)(off:Nat)(vs:List PV):List PV:=cs.take off++(vs++cs.drop (off+vs.length))
def cell:PV→Bool
 | .ag _ | .tu _=>false
 |_=>true
def fillP(place:Nat→Option (Nat×Nat))(cs:List PV):List (Nat×PV)→Option (List PV)
 |[]=>some cs
 |(i,v)::r=>match place i with
  |some (off,size)=>match Nat.beq v.cells.length size&&Nat.ble (off+size) cs.length&&v.cells.all cell with
   |true=>fillP place (updP cs off v.cells) r
   |false=>none
  |none=>none
def avalP(ρ:AEnv):List (Nat×Operand)→Option (List (Nat×PV))
 |[]=>some []
 |(i,x)::r=>match aval ρ x,avalP ρ r with
  |some v,some l=>some ((i,v)::l)
  |_,_=>none
def zeroP(P:Program)(T:TypeId):Option (List PV):=match tz P T with
 |some z=>mapO ofCell z.cells.toList
 |none=>none
def aBuild(P:Program)(ρ:AEnv)(T:TypeId)(parts:Array (Nat×Operand)):Option PV:=match avalP ρ parts.toList,zeroP P T with
 |some pv,some zs=>match tpl P T with
  |some pl=>(fillP (fun i=>pl[i]?) zs pv).map .ag
  |none=>none
 |_,_=>none
def aLoadC(P:Program)(ρ:AEnv)(T:TypeId)(x:Operand):Option PV:=match tk P T,aval ρ x with
 |some (ag,k),some (.cp cs)=>loadP ag cs 0 k
 |some (ag,k),some (.ci cs)=>loadP ag cs 0 k
 |_,_=>none
def lenP(P:Program)(T:TypeId)(v:PV):Option PV:=match v with
 | .sl _ _ xs=>match tsl P T with
  |some _=>some (.sc (.int .i64 xs.length))
  |none=>none
 | .sc u=>(qrun P (Builtin.len_ #[T] 0 #[u])).bind ofVal
 |_=>none
def aBuiltin(P:Program)(ρ:AEnv)(b:Builtin)(xs:List Operand)(ts:List TypeId):Option PV:=match b,xs,ts with
 | .len,[x],[T]=>(aval ρ x).bind (lenP P T)
 | .max,[x,y],[T,U]=>match aval ρ x,aval ρ y with
  |some (.sc u),some (.sc v)=>(qrun P (Builtin.max_ #[T,U] 0 #[u,v])).bind ofVal
  |_,_=>none
 | .min,[x,y],[T,U]=>match aval ρ x,aval ρ y with
  |some (.sc u),some (.sc v)=>(qrun P (Builtin.min_ #[T,U] 0 #[u,v])).bind ofVal
  |_,_=>none
 | .unsafeSliceData,[x],_=>match aval ρ x with
  |some (.sl f z xs)=>match xs with
   |[]=>match f&&Nat.beq z 0 with
    |true=>some (.sc (.pointer none))
    |false=>none
   |_=>none
  |_=>none
 | .unsafeString,[x,y],[T,U]=>match aval ρ x,aval ρ y with
  |some (.sc u),some (.sc v)=>(qrun P (Builtin.unsafeString_ #[T,U] 0 #[u,v])).bind ofVal
  |_,_=>none
 |_,_,_=>none
def aP(P:Program)(ρ:AEnv):Op→Option PV
 | .move x | .assign x=>aval ρ x
 | .pick c a b=>aPick ρ c a b
 | .nilCheck x=>aNil ρ x
 | .extract x i=>aExtract ρ x i
 | .binOp op T x y _=>aBin P ρ op T x y
 | .unOp op _ x=>aUn P ρ op x
 | .convert s d x=>aConv P ρ s d x
 | .makeInterface T x=>aIface P ρ T x
 | .makeFunc f a b=>aFn ρ f a b
 | .slice T x lo hi mx=>aSlice P ρ T x lo hi mx
 | .fieldAddr T x f=>aFieldAddr P ρ T x f
 | .field T x f=>aField P ρ T x f
 | .indexAddr T x i=>aIndexAddr P ρ T x i
 | .index T x i=>aIndex P ρ T x i
 | .typeAssert x _ T ok=>aAssert P ρ x T ok
 | .build T parts=>aBuild P ρ T parts
 | .load T x=>aLoadC P ρ T x
 | .call ⟨.builtin b,xs,ts⟩=>aBuiltin P ρ b xs.toList ts.toList
 |_=>none
def mapT(P:Program)(T:TypeId):Option (TypeDesc×TypeId):=match P.underlying T with
 |some (.map k e)=>match P.underlying k with
  |some (.int q)=>some (.int q,e)
  |some .string=>some (.string,e)
  |_=>none
 |_=>none
def findK(d:TypeDesc)(k:Value):List Value→Nat→Option (Option Nat)
 |[],_=>some none
 |x::r,i=>match Instr.sameNow d k x with
  |some true=>some (some i)
  |some false=>findK d k r (i+1)
  |none=>none
def zeroE(P:Program)(e:TypeId):Option PV:=(tz P e).bind ofVal
def okV(ok:Bool)(v:PV)(b:Bool):PV:=match ok with
 |true=>.tu [v,.sc (.bool b)]
 |false=>v
def mapGet(P:Program)(st:Sto)(T:TypeId)(ok:Bool)(x i:PV):Option PV:=match mapT P T,x,i with
 |some (d,e),.mr id,.sc k=>match st[id]? with
  |some (.mp ks vs)=>match findK d k ks 0 with
   |some (some j)=>(vs[j]?).map fun v=>okV ok v true
   |some none=>(zeroE P e).map fun v=>okV ok v false
   |none=>none
  |_=>none
 |_,_,_=>none
def mapPut(P:Program)(st:Sto)(T:TypeId)(x i v:PV):Option Sto:=match mapT P T,x,i with
 |some (d,_),.mr id,.sc k=>match st[id]? with
  |some (.mp ks vs)=>match findK d k ks 0 with
   |some (some j)=>some (st.set id (.mp ks (vs.set j v)))
   |some none=>some (st.set id (.mp (ks++[k]) (vs++[v])))
   |none=>none
  |_=>none
 |_,_,_=>none
def objLen(P:Program)(st:Sto)(T:TypeId)(x:PV):Option PV:=match x with
 | .mr id=>match P.underlying T,st[id]? with
  |some (.map _ _),some (.mp ks _)=>some (.sc (.int .i64 ks.length))
  |_,_=>none
 | .cr id=>match P.underlying T,st[id]? with
  |some (.chan _ _),some (.ch _ q)=>some (.sc (.int .i64 q.length))
  |_,_=>none
 |_=>none
def loadS(st:Sto)(ag:Bool)(k:Nat):PV→Option PV
 | .bp id off=>match st[id]? with
  |some (.box _ cs)=>loadP ag cs off k
  |some (.frz cs)=>loadP ag cs off k
  |_=>none
 | .rp id len i off=>match st[id]? with
  |some (.row _ _ _ xs)=>match Nat.beq len xs.length,xs[i]? with
   |true,some v=>loadP ag v.cells off k
   |_,_=>none
  |_=>none
 |_=>none
def rowLen(st:Sto):PV→Option PV
 | .ms id len=>match st[id]? with
  |some (.row _ _ _ xs)=>match Nat.beq len xs.length with
   |true=>some (.sc (.int .i64 len))
   |false=>none
  |_=>none
 |_=>none
def rowIdx(st:Sto)(z q:Nat):PV→Option PV
 | .ms id len=>match st[id]? with
  |some (.row _ _ sz xs)=>match Nat.beq len xs.length&&Nat.blt q len&&Nat.beq z sz with
   |true=>some (.rp id len q 0)
   |false=>none
  |_=>none
 |_=>none
def aK(P:Program)(ρ:AEnv)(st:Sto):Op→Option PV
 | .indexAddr T x i=>match tsl P T,aval ρ x,aval ρ i with
  |some (_,z),some a,some i=>match nat? i with
   |some q=>rowIdx st z q a
   |none=>none
  |_,_,_=>none
 | .load T x=>match tk P T,aval ρ x with
  |some (ag,k),some p=>loadS st ag k p
  |_,_=>none
 | .call ⟨.builtin .len,xs,ts⟩=>match xs.toList,ts.toList with
  |[x],[T]=>match tsl P T,aval ρ x with
   |some _,some v=>rowLen st v
   |none,some v=>objLen P st T v
   |_,_=>none
  |_,_=>none
 | .call ⟨.builtin .unsafeSliceData,xs,_⟩=>match xs.toList with
  |[x]=>match aval ρ x with
   |some (.ms id len)=>match st[id]? with
    |some (.row _ _ _ xs)=>match Nat.beq len xs.length&&Nat.blt 0 len with
     |true=>some (.rp id len 0 0)
     |false=>none
    |_=>none
   |_=>none
  |_=>none
 | .lookup T x i ok=>match aval ρ x,aval ρ i with
  |some x,some i=>mapGet P st T ok x i
  |_,_=>none
 | .convert s d x=>match aval ρ x with
  |some (.ms id len)=>match st[id]? with
   |some (.row _ _ _ xs)=>match Nat.beq len xs.length with
    |true=>strB P s d xs
    |false=>none
   |_=>none
  |_=>none
 |_=>none
inductive AEnd where
 |ret (rs:List PV)
 |pan (v:PV)
structure Cfg where
 P:Program
 fz:TypeId→Bool
 raw:FuncId→Bool
 keep:FuncId→Bool
 lit:TypeId→Bool
 nat:FuncId→Option (List PV→Sto→Option (AEnd×Sto))
 fzc:FuncId→TypeId→Bool
 pst:TypeId→Bool
 sqz:Bool
def Cfg.at(C:Cfg)(f:FuncId):Cfg:=⟨C.P,fun T=>C.fzc f T||C.fz T,C.raw,C.keep,C.lit,C.nat,C.fzc,C.pst,C.sqz⟩
def mapS(f:PV→Sto→Option (PV×Sto)):List PV→Sto→Option (List PV×Sto)
 |[],st=>some ([],st)
 |x::r,st=>match f x st with
  |some (y,st)=>match mapS f r st with
   |some (l,st)=>some (y::l,st)
   |none=>none
  |none=>none
def frzV(cs:List PV):PV:=match cs.all (pur 6) with
 |true=>.cp cs
 |false=>.ci cs
def pubRow(id len:Nat)(st:Sto):PV×Sto:=match st[id]? with
 |some (.row _ e sz xs)=>match Nat.beq len xs.length&&xs.all (pur 6) with
  |true=>(.sl false sz xs,st.set id (.row true e sz xs))
  |false=>(.ms id len,st)
 |_=>(.ms id len,st)
def pubV(C:Cfg):Nat→PV→Sto→Option (PV×Sto)
 |0,_,_=>none
 |n+1,v,st=>match v with
  | .ms id len=>some (pubRow id len st)
  | .bp id 0=>match st[id]? with
   |some (.box T cs)=>match C.fz T with
    |true=>match mapS (pubV C n) cs st with
     |some (cs',st')=>match st'[id]? with
      |some (.box _ _)=>some (frzV cs',st'.set id (.frz cs'))
      |_=>none
     |none=>none
    |false=>some (v,st)
   |some (.frz cs)=>some (frzV cs,st)
   |_=>some (v,st)
  | .ag cs=>match mapS (pubV C n) cs st with
   |some (cs,st)=>some (.ag cs,st)
   |none=>none
  | .tu cs=>match mapS (pubV C n) cs st with
   |some (cs,st)=>some (.tu cs,st)
   |none=>none
  | .fn f a b=>match mapS (pubV C n) a st with
   |some (a,st)=>match mapS (pubV (C.at f) n) b st with
    |some (b,st)=>some (.fn f a b,st)
    |none=>none
   |none=>none
  | .ifc t x=>match pubV C n x st with
   |some (x,st)=>some (.ifc t x,st)
   |none=>none
  |_=>some (v,st)
def pubL(C:Cfg):List PV→Sto→Option (List PV×Sto):=mapS (pubV C 8)
def ids:Nat→PV→List Nat
 |0,_=>[]
 |n+1,v=>match v with
  | .ms id _ | .bp id _ | .rp id .. | .yl id | .mr id | .cr id=>[id]
  | .ag cs | .tu cs | .ci cs=>cs.flatMap (ids n)
  | .fn _ a b=>a.flatMap (ids n)++b.flatMap (ids n)
  | .ifc _ x=>ids n x
  |_=>[]
def idsSO:SO→List Nat
 | .box _ cs | .frz cs=>cs.flatMap (ids 8)
 | .row _ _ _ xs=>xs.flatMap (ids 8)
 | .dead=>[]
 | .lp ρ _ _ _ _=>ρ.flatMap fun p=>ids 8 p.2
 | .mp _ vs=>vs.flatMap (ids 8)
 | .ch _ q=>q.flatMap (ids 8)
def close(st:Sto):Nat→List Nat→List Nat→List Nat
 |0,_,acc=>acc
 |n+1,work,acc=>match work with
  |[]=>acc
  |i::r=>match acc.elem i with
   |true=>close st n r acc
   |false=>close st n (r++(match st[i]? with
    |some o=>idsSO o
    |none=>[])) (i::acc)
def renPV(g:Nat→Nat):Nat→PV→PV
 |0,v=>v
 |n+1,v=>match v with
  | .ms id len=>.ms (g id) len
  | .yl id=>.yl (g id)
  | .mr id=>.mr (g id)
  | .cr id=>.cr (g id)
  | .bp id off=>.bp (g id) off
  | .rp id len i off=>.rp (g id) len i off
  | .ag cs=>.ag (cs.map (renPV g n))
  | .tu cs=>.tu (cs.map (renPV g n))
  | .ci cs=>.ci (cs.map (renPV g n))
  | .fn f a b=>.fn f (a.map (renPV g n)) (b.map (renPV g n))
  | .ifc t x=>.ifc t (renPV g n x)
  |v=>v
def renSO(g:Nat→Nat):SO→SO
 | .box T cs=>.box T (cs.map (renPV g 8))
 | .frz cs=>.frz (cs.map (renPV g 8))
 | .row p e sz xs=>.row p e sz (xs.map (renPV g 8))
 | .dead=>.dead
 | .lp ρ ps a b s=>.lp (ρ.map fun p=>(p.1,renPV g 8 p.2)) ps a b s
 | .mp ks vs=>.mp ks (vs.map (renPV g 8))
 | .ch c q=>.ch c (q.map (renPV g 8))
def inIds(f:Nat→Bool):Nat→PV→Bool
 |0,_=>false
 |n+1,v=>match v with
  | .ms id _ | .bp id _ | .rp id .. | .yl id | .mr id | .cr id=>f id
  | .ag cs | .tu cs | .ci cs=>cs.all (inIds f n)
  | .fn _ a b=>a.all (inIds f n)&&b.all (inIds f n)
  | .ifc _ x=>inIds f n x
  | .sc _ | .sl .. | .cp _ | .un=>true
def soIn(f:Nat→Bool):SO→Bool
 | .box _ cs | .frz cs=>cs.all (inIds f 8)
 | .row _ _ _ xs=>xs.all (inIds f 8)
 | .dead=>true
 | .lp ρ _ _ _ _=>ρ.all fun p=>inIds f 8 p.2
 | .mp _ vs=>vs.all (inIds f 8)
 | .ch _ q=>q.all (inIds f 8)
def place(i:Nat):Nat→List Nat→Nat
 |k,[]=>k
 |k,x::r=>match Nat.beq x i with
  |true=>k
  |false=>place i (k+1) r
def back(π:List Nat)(L:Nat)(j:Nat):Nat:=match π[j]? with
 |some i=>i
 |none=>L+(j-π.length)
def fetch(g:Nat→Nat)(f:Nat→Bool)(st:Sto):List Nat→Option Sto:=mapO fun i=>match st[i]? with
 |some o=>match soIn f o with
  |true=>some (renSO g o)
  |false=>none
 |none=>none
def putAll(g:Nat→Nat):List Nat→Sto→Sto→Sto
 |i::π,o::os,st=>putAll g π os (st.set i (renSO g o))
 |_,_,st=>st
inductive AX where
 |normal
 |exit (i:Nat)
 |ret
 |pan (v:PV)
structure AS where
 env:AEnv
 st:Sto
structure Ev where
 call:FuncId→List PV→Sto→Option (AEnd×Sto)
 loop:List Nat→Nat→Code→AS→Option (AX×AS)
 yield:List PV→Sto→Option (AEnd×Sto)
def endPur:AEnd→Bool
 | .ret rs=>rs.all (pur 8)
 | .pan v=>pur 8 v
def endIn(f:Nat→Bool):AEnd→Bool
 | .ret rs=>rs.all (inIds f 8)
 | .pan v=>inIds f 8 v
def renEnd(g:Nat→Nat)(r:AEnd):AEnd:=match endPur r with
 |true=>r
 |false=>match r with
  | .ret rs=>.ret (rs.map (renPV g 8))
  | .pan v=>.pan (renPV g 8 v)
def comeBack(π:List Nat)(st:Sto)(r:AEnd)(st1:Sto):Option (AEnd×Sto):=match endIn (fun j=>Nat.blt j st1.length) r&&st1.all (soIn fun j=>Nat.blt j st1.length) with
 |true=>some (renEnd (back π st.length) r,putAll (back π st.length) π st1 st++(st1.drop π.length).map (renSO (back π st.length)))
 |false=>none
def acallM(call:List PV→Sto→Option (AEnd×Sto))(args:List PV)(π:List Nat)(st:Sto):Option (AEnd×Sto):=
 match args.all (inIds (fun i=>π.elem i) 8),fetch (fun i=>place i 0 π) (fun i=>π.elem i) st π with
 |true,some st0=>match call (args.map (renPV (fun i=>place i 0 π) 8)) st0 with
  |some (r,st1)=>comeBack π st r st1
  |none=>none
 |_,_=>none
def acallS(C:Cfg)(e:Ev)(f:FuncId)(args:List PV)(st:Sto):Option (AEnd×Sto):=
 match(match C.raw f with
  |true=>some (args,st)
  |false=>pubL C args st) with
 |none=>none
 |some (args,st)=>match args.all (pur 8) with
  |true=>match e.call f args [] with
   |some (r,st1)=>match endPur r with
    |true=>some (r,st)
    |false=>comeBack [] st r st1
   |none=>none
  |false=>acallM (e.call f) args (close st 64 (args.flatMap (ids 8)) []).reverse st
def contents(st:Sto):PV→Option (Nat×List PV)
 | .sl _ sz xs=>some (sz,xs)
 | .ms id len=>match st[id]? with
  |some (.row _ _ sz xs)=>match Nat.beq len xs.length with
   |true=>some (sz,xs)
   |false=>none
  |_=>none
 |_=>none
inductive AR where
 |val (v:PV) (st:Sto)
 |unit (st:Sto)
 |pan (v:PV) (st:Sto)
def retV:List PV→PV
 |[v]=>v
 |vs=>.tu vs
def sBox(ρ:AEnv)(st:Sto)(T:TypeId)(x:Operand):Option AR:=match aval ρ x with
 |some v=>match v.cells.all cell with
  |true=>some (.val (.bp st.length 0) (st++[.box T v.cells]))
  |false=>none
 |none=>none
def sAlloc(P:Program)(st:Sto)(T:TypeId):Option AR:=match zeroP P T with
 |some cs=>some (.val (.bp st.length 0) (st++[.box T cs]))
 |none=>none
def putElem(w v:PV)(off:Nat):PV:=match w with
 | .ag cs=>.ag (updP cs off v.cells)
 |_=>v
def storeS(st:Sto)(k:Nat)(v:PV):PV→Option Sto
 | .bp id off=>match st[id]? with
  |some (.box T cs)=>match Nat.ble (off+k) cs.length with
   |true=>some (st.set id (.box T (updP cs off v.cells)))
   |false=>none
  |_=>none
 | .rp id len i off=>match st[id]? with
  |some (.row false t sz xs)=>match Nat.beq len xs.length,xs[i]? with
   |true,some w=>match Nat.ble (off+k) w.cells.length&&Nat.beq (putElem w v off).cells.length sz with
    |true=>some (st.set id (.row false t sz (xs.set i (putElem w v off))))
    |false=>none
   |_,_=>none
  |_=>none
 |_=>none
def sStore(P:Program)(ρ:AEnv)(st:Sto)(T:TypeId)(x y:Operand):Option AR:=match tk P T,aval ρ x,aval ρ y with
 |some (_,k),some p,some v=>match Nat.beq v.cells.length k&&v.cells.all cell with
  |true=>(storeS st k v p).map .unit
  |false=>none
 |_,_,_=>none
def elems(ag:Bool)(cs:List PV)(sz len:Nat):Option (List PV):=mapO (fun i=>loadP ag cs (i*sz) sz) (List.range len)
def sBuildSlice(P:Program)(lit:Bool)(ρ:AEnv)(st:Sto)(T:TypeId)(len:Nat)(parts:Array (Nat×Operand)):Option AR:=match tsl P T with
 |some (t,sz)=>match zeroP P t,avalP ρ parts.toList,tk P t with
  |some zs,some pv,some (ag,_)=>match Nat.ble (len*sz) 1000&&Nat.beq zs.length sz&&Nat.blt 0 sz with
   |true=>match fillP (fun i=>some (i*sz,sz)) ((List.range len).flatMap fun _=>zs) pv with
    |some cs=>match elems ag cs sz len with
     |some xs=>match xs.all fun x=>Nat.beq x.cells.length sz with
      |true=>match xs.all (pur 6) && !lit with
       |true=>some (.val (.sl true sz xs) st)
       |false=>some (.val (.ms st.length len) (st++[.row false t sz xs]))
      |false=>none
     |none=>none
    |none=>none
   |false=>none
  |_,_,_=>none
 |none=>none
def sSlice(C:Cfg)(ρ:AEnv)(st:Sto)(T:TypeId)(x:Operand)(lo hi mx:Option Operand):Option AR:=match aval ρ x with
 |some (.ms id len)=>match pubRow id len st with
  |(.sl full sz xs,st)=>match optV ρ lo,optV ρ hi,optV ρ mx,szOk C.P T sz xs with
   |some lo,some hi,some mx,true=>(sliceP full sz xs lo hi mx).map fun v=>.val v st
   |_,_,_,_=>none
  |_=>none
 |_=>none
def sConv(P:Program)(ρ:AEnv)(st:Sto)(s d:TypeId)(x:Operand):Option AR:=match strT P s,P.underlying d,aval ρ x with
 |true,some (.slice e),some (.sc (.string b))=>match P.underlying e with
  |some (.int .u8)=>match Nat.ble b.size 1000000000&&Hb.markT e with
   |true=>some (.val (.ms st.length b.data.toList.length) (st++[.row false e 1 (b.data.toList.map fun c=>.sc (.int .u8 c.toNat))]))
   |false=>none
  |_=>none
 |_,_,_=>none
def ptrOne(P:Program)(T e:TypeId):Bool:=match P.underlying T with
 |some (.pointer e')=>Nat.beq e e'&&Nat.beq (P.cellsOf e) 1
 |_=>false
def sUnsafeStr(P:Program)(ρ:AEnv)(st:Sto)(x n:Operand)(T:TypeId):Option AR:=match aval ρ x,aval ρ n with
 |some (.rp id len 0 0),some (.sc (.int .i64 m))=>match st[id]? with
  |some (.row _ e sz xs)=>match Nat.beq len xs.length&&(Nat.blt 0 len&&(decide (m=(len:Int))&&(Nat.beq sz 1&&ptrOne P T e))) with
   |true=>match mapO u8Of xs with
    |some l=>some (.val (.sc (.string ⟨l.toArray⟩)) (st.set id .dead))
    |none=>none
   |false=>none
  |_=>none
 |_,_=>none
def sMakeMap(ρ:AEnv)(st:Sto)(hint:Option Operand):Option AR:=match hint with
 |none=>some (.val (.mr st.length) (st++[.mp [] []]))
 |some _=>none
def sMakeChan(P:Program)(ρ:AEnv)(st:Sto)(T:TypeId)(n:Operand):Option AR:=match P.underlying T,aval ρ n with
 |some (.chan _ e),some n=>match nat? n,P.info? e with
  |some n,some i=>match Nat.ble n 9223372036854775807&&Nat.ble (i.bytes*n) 281474976710544 with
   |true=>some (.val (.cr st.length) (st++[.ch n []]))
   |false=>none
  |_,_=>none
 |_,_=>none
def sMapPut(P:Program)(ρ:AEnv)(st:Sto)(T:TypeId)(x i v:Operand):Option AR:=match aval ρ x,aval ρ i,aval ρ v with
 |some x,some i,some v=>(mapPut P st T x i v).map .unit
 |_,_,_=>none
def sPanic(ρ:AEnv)(st:Sto)(x:Operand):Option AR:=match aval ρ x with
 |some (.ifc t v)=>some (.pan (.ifc t v) st)
 |_=>none
def room:Nat:=140737488355328
def fits(n by_:Nat):Bool:=Nat.ble (n*by_) room&&Nat.ble n room
def elemBytes(P:Program)(t sz:Nat):Option Nat:=match P.info? t with
 |some ti=>match ti.zero with
  |some z=>match Nat.beq z.cells.size sz&&Nat.blt 0 sz with
   |true=>some ti.bytes
   |false=>none
  |none=>none
 |none=>none
def appendS(st:Sto)(t sz by_:Nat)(ys:List PV)(a:PV):Option AR:=match a with
 | .ms id len=>match st[id]? with
  |some (.row p t' z xs)=>match Nat.beq len xs.length&&Nat.beq t t'&&Nat.beq sz z&&fits (len+ys.length) by_ with
   |true=>match ys with
    |[]=>some (.val a st)
    |_=>some (.val (.ms id (len+ys.length)) (st.set id (.row p t' z (xs++ys))))
   |false=>none
  |_=>none
 | .sl full z xs=>match ys with
  |[]=>some (.val a st)
  |_=>match full&&(Nat.beq sz z||xs.isEmpty)&&fits (xs.length+ys.length) by_ with
   |true=>some (.val (.ms st.length (xs.length+ys.length)) (st++[.row false t sz (xs++ys)]))
   |false=>none
 |_=>none
def appendStr(P:Program)(st:Sto)(U t sz by_:Nat)(a b:PV):Option AR:=match strT P U,a,b with
 |true,.ms id len,.sc (.string s)=>match st[id]? with
  |some (.row p t' z xs)=>match Nat.beq len xs.length&&Nat.beq t t'&&Nat.beq z 1&&Nat.beq sz 1&&Nat.beq by_ 1&&Nat.blt 0 len&&fits (len+s.size) 1 with
   |true=>match s.data.toList with
    |[]=>some (.val a st)
    |l=>some (.val (.ms id (len+s.size)) (st.set id (.row p t' 1 (xs++l.map fun c=>.sc (.int .u8 c.toNat)))))
   |false=>none
  |_=>none
 |_,_,_=>none
def sAppend(P:Program)(ρ:AEnv)(st:Sto)(xs:List Operand)(ts:List TypeId):Option AR:=match xs,ts with
 |[x,y],[T,U]=>match Nat.beq T U,tsl P T with
  |true,some (t,sz)=>match aval ρ x,aval ρ y,elemBytes P t sz with
   |some a,some b,some by_=>match contents st b with
    |some (z,ys)=>match Nat.beq sz z||ys.isEmpty with
     |true=>appendS st t sz by_ ys a
     |false=>none
    |none=>none
   |_,_,_=>none
  |false,some (t,sz)=>match aval ρ x,aval ρ y,elemBytes P t sz with
   |some a,some b,some by_=>appendStr P st U t sz by_ a b
   |_,_,_=>none
  |_,_=>none
 |_,_=>none
def sMakeSlice(P:Program)(ρ:AEnv)(st:Sto)(T:TypeId)(n c:Operand):Option AR:=match tsl P T,aval ρ n,aval ρ c with
 |some (t,sz),some (.sc (.int .i64 n)),some (.sc (.int .i64 c))=>match zeroP P t,tk P t,elemBytes P t sz with
  |some zs,some (ag,_),some by_=>match decide (n=c)&&(Nat.blt 0 n.toNat&&(Nat.ble (n.toNat*sz) 1000&&(Nat.ble (n.toNat*by_) 100000&&(Nat.beq zs.length sz&&Nat.blt 0 sz)))) with
   |true=>match elems ag ((List.range n.toNat).flatMap fun _=>zs) sz n.toNat with
    |some xs=>match xs.all fun x=>Nat.beq x.cells.length sz with
     |true=>some (.val (.ms st.length n.toNat) (st++[.row false t sz xs]))
     |false=>none
    |none=>none
   |false=>none
  |_,_,_=>none
 |_,_,_=>none
def sCall(C:Cfg)(e:Ev)(ρ:AEnv)(st:Sto)(g:Operand)(xs:List Operand):Option AR:=match aval ρ g,mapO (aval ρ) xs with
 |some (.fn f a b),some vs=>match callable C.P f with
  |true=>match acallS C e f (a++vs++b) st with
   |some (.ret rs,st)=>some (.val (retV rs) st)
   |some (.pan v,st)=>some (.pan v st)
   |none=>none
  |false=>none
 |_,_=>none
def aS(C:Cfg)(e:Ev)(ρ:AEnv)(st:Sto):Op→Option AR
 | .box T x=>sBox ρ st T x
 | .alloc T=>sAlloc C.P st T
 | .store T x y=>sStore C.P ρ st T x y
 | .buildSlice T len parts=>sBuildSlice C.P (C.lit T) ρ st T len parts
 | .slice T x lo hi mx=>sSlice C ρ st T x lo hi mx
 | .panic x=>sPanic ρ st x
 | .makeMap _ h=>sMakeMap ρ st h
 | .call ⟨.builtin .unsafeString,xs,ts⟩=>match xs.toList,ts.toList with
  |[x,n],[T,_]=>sUnsafeStr C.P ρ st x n T
  |_,_=>none
 | .convert s d x=>sConv C.P ρ st s d x
 | .makeChan T n=>sMakeChan C.P ρ st T n
 | .mapUpdate T x i v=>sMapPut C.P ρ st T x i v
 | .insert T x i v=>sMapPut C.P ρ st T x i v
 | .makeSlice T n c=>sMakeSlice C.P ρ st T n c
 | .call ⟨.builtin .append,xs,ts⟩=>sAppend C.P ρ st xs.toList ts.toList
 | .call ⟨.value g,xs,_⟩=>sCall C e ρ st g xs.toList
 |_=>none
def acts:Op→Bool
 | .box .. | .alloc .. | .store .. | .buildSlice .. | .panic .. =>true
 | .call ⟨.value _,_,_⟩=>true
 |_=>false
def pkVal(st:Sto):Option PV→Option AR
 |some v=>some (.val v st)
 |none=>none
def aoper(C:Cfg)(e:Ev)(ρ:AEnv)(st:Sto)(o:Op):Option AR:=match acts o with
 |true=>aS C e ρ st o
 |false=>match aP C.P ρ o with
  |some v=>some (.val v st)
  |none=>match aK C.P ρ st o with
   |some v=>some (.val v st)
   |none=>aS C e ρ st o
def sYield(C:Cfg)(e:Ev)(id:Nat)(vs:List PV)(st:Sto):Option AR:=match pubL C vs st with
 |some (vs,st)=>match acallM e.yield (.yl id::vs) (close st 64 ((PV.yl id::vs).flatMap (ids 8)) []).reverse st with
  |some (.ret rs,st)=>some (.val (retV rs) st)
  |_=>none
 |none=>none
def pstOp(C:Cfg)(ρ:AEnv)(st:Sto):Op→Option (AEnv×Sto)
 | .store T _ (.tmp t)=>match C.pst T with
  |true=>match aget ρ t with
   |some v=>match pubV C 8 v st with
    |some (v',st')=>some (aput (some t) v' ρ,st')
    |none=>none
   |none=>none
  |false=>some (ρ,st)
 |_=>some (ρ,st)
def aoperY(C:Cfg)(e:Ev)(ρ:AEnv)(st:Sto)(o:Op):Option AR:=match o with
 | .call ⟨.value g,xs,_⟩=>match aval ρ g with
  |some (.yl id)=>match mapO (aval ρ) xs.toList with
   |some vs=>sYield C e id vs st
   |none=>none
  |_=>aoper C e ρ st o
 |o=>match pstOp C ρ st o with
  |some (ρ,st)=>aoper C e ρ st o
  |none=>none
def guardP(ops:Array Oper)(ρ:AEnv):Option (Nat×Bool)→Option Bool
 |none=>some true
 |some (j,want)=>match(ops[j]?).bind (·.dst) with
  |some t=>match aget ρ t with
   |some (.sc (.bool b))=>some (b == want)
   |some (.tu [])=>some false
   |_=>none
  |none=>none
def aops(C:Cfg)(e:Ev)(ops:Array Oper):List Oper→AS→Option (AX×AS)
 |[],s=>some (.normal,s)
 |o::r,s=>match guardP ops s.env o.guard with
  |some true=>match aoperY C e s.env s.st o.op with
   |some (.val v st)=>aops C e ops r ⟨aput o.dst v s.env,st⟩
   |some (.unit st)=>aops C e ops r ⟨aput o.dst (.tu []) s.env,st⟩
   |some (.pan v st)=>some (.pan v,⟨s.env,st⟩)
   |none=>none
  |some false=>aops C e ops r ⟨aput o.dst (.tu []) s.env,s.st⟩
  |none=>none
def aonly(ls:List Nat):AEnv→AEnv
 |[]=>[]
 |(k,v)::r=>match ls.elem k with
  |true=>(k,v)::aonly ls r
  |false=>aonly ls r
inductive DK where
 |p
 |k (id:Nat)
 |c
 |a
 |al
def soloAl(ops:Array Oper)(t:Nat):Bool:=ops.toList.all fun q=>!((looks ops q).elem t)||(match q.op,q.guard with
 | .store ..,none=>true
 |_,_=>false)
def actK(ops:Array Oper)(o:Oper):DK:=match o.op,o.dst with
 | .alloc _,some t=>match soloAl ops t with
  |true=>.al
  |false=>.a
 |_,_=>.a
def lookId(ρ:AEnv):Op→Option Nat
 | .load _ x=>match aval ρ x with
  |some (.bp id _)=>some id
  |some (.rp id ..)=>some id
  |_=>none
 | .indexAddr _ x _=>match aval ρ x with
  |some (.ms id _)=>some id
  |_=>none
 | .call ⟨.builtin .len,xs,_⟩=>match xs.toList with
  |[x]=>match aval ρ x with
   |some (.ms id _)=>some id
   |some (.mr id)=>some id
   |some (.cr id)=>some id
   |_=>none
  |_=>none
 | .call ⟨.builtin .unsafeSliceData,xs,_⟩=>match xs.toList with
  |[x]=>match aval ρ x with
   |some (.ms id _)=>some id
   |_=>none
  |_=>none
 | .lookup _ x _ _=>match aval ρ x with
  |some (.mr id)=>some id
  |_=>none
 | .convert _ _ x=>match aval ρ x with
  |some (.ms id _)=>some id
  |_=>none
 |_=>none
def pureAct(C:Cfg)(e:Ev)(ρ:AEnv):Op→Option PV
 | .buildSlice T len parts=>match sBuildSlice C.P (C.lit T) ρ [] T len parts with
  |some (.val (.sl b z xs) _)=>some (.sl b z xs)
  |_=>none
 | .call ⟨.value g,xs,_⟩=>match aval ρ g,mapO (aval ρ) xs.toList with
  |some (.fn f a b),some vs=>match callable C.P f&&(a++vs++b).all (pur 8) with
   |true=>match e.call f (a++vs++b) [] with
    |some (.ret rs,_)=>match rs.all (pur 8) with
     |true=>some (retV rs)
     |false=>none
    |_=>none
   |false=>none
  |_,_=>none
 |_=>none
def drawOp(C:Cfg)(e:Ev)(ops:Array Oper)(o:Oper)(ρ:AEnv)(st:Sto):Option (PV×Sto×DK):=match guardP ops ρ o.guard with
 |some false=>some (.tu [],st,.p)
 |some true=>match aP C.P ρ o.op with
  |some v=>some (v,st,.p)
  |none=>match aK C.P ρ st o.op with
   |some v=>match lookId ρ o.op with
    |some id=>some (v,st,.k id)
    |none=>none
   |none=>match pureAct C e ρ o.op with
    |some v=>some (v,st,.c)
    |none=>match aS C e ρ st o.op with
     |some (.val v st)=>some (v,st,actK ops o)
     |some (.unit st)=>some (.tu [],st,.a)
     |_=>none
 |none=>none
structure Tr where
 d:DK
 b:Sto
 f:Sto
 tch:List Nat
def closedB(st:Sto)(T:List Nat):Bool:=T.all fun i=>match st[i]? with
 |some o=>soIn (fun j=>T.elem j) o
 |none=>true
def touchC(st:Sto)(args:List PV):List Nat:=
 let T:=close st 64 (args.flatMap (ids 8)) []
 match closedB st T&&args.all (inIds (fun j=>T.elem j) 8) with
 |true=>T
 |false=>List.range st.length
def touchV(ρ:AEnv)(x:Operand):List Nat:=match aval ρ x with
 |some v=>ids 1 v
 |none=>[]
def touch(ρ:AEnv)(st:Sto):Op→List Nat
 | .store _ x _=>touchV ρ x
 | .slice _ x _ _ _=>touchV ρ x
 | .mapUpdate _ x _ _=>touchV ρ x
 | .call ⟨.builtin .unsafeString,xs,_⟩=>match xs.toList with
  |x::_=>touchV ρ x
  |[]=>[]
 | .insert _ x _ _=>touchV ρ x
 | .call ⟨.builtin .append,xs,_⟩=>match xs.toList with
  |x::_=>touchV ρ x
  |[]=>[]
 | .call ⟨.value g,xs,_⟩=>match aval ρ g,mapO (aval ρ) xs.toList with
  |some (.fn _ a b),some vs=>touchC st (a++vs++b)
  |_,_=>[]
 |_=>[]
def drawRun(C:Cfg)(e:Ev)(ops:Array Oper):List Oper→AS→Option (AS×List Tr)
 |[],s=>some (s,[])
 |o::r,s=>match drawOp C e ops o (aonly (looks ops o) s.env) s.st with
  |some (v,st,d)=>match drawRun C e ops r ⟨aput o.dst v s.env,st⟩ with
   |some (s',l)=>some (s',⟨d,s.st,st,touch (aonly (looks ops o) s.env) s.st o.op⟩::l)
   |none=>none
  |none=>none
def clos:List (List Nat)→List Oper→List (List Nat)
 |acc,[]=>acc
 |acc,o::r=>clos (acc++[deps o++(deps o).flatMap fun i=>acc.getD i []]) r
def eqV:Value→Value→Bool
 | .int k a,.int k' b=>decide (k=k')&&decide (a=b)
 | .bool a,.bool b=>a == b
 | .string a,.string b=>decide (a=b)
 | .pointer none,.pointer none=>true
 | .nilFunc,.nilFunc=>true
 | .nilIface,.nilIface=>true
 |_,_=>false
def eqL{α:Type}(f:α→α→Bool):List α→List α→Bool
 |[],[]=>true
 |x::r,y::s=>f x y&&eqL f r s
 |_,_=>false
def eqPV:Nat→PV→PV→Bool
 |0,_,_=>false
 |n+1,x,y=>match x,y with
  | .sc u,.sc v=>eqV u v
  | .ag a,.ag b=>eqL (eqPV n) a b
  | .sl f z a,.sl g y b=>f == g&&Nat.beq z y&&eqL (eqPV n) a b
  | .ms i l,.ms j k=>Nat.beq i j&&Nat.beq l k
  | .bp i l,.bp j k=>Nat.beq i j&&Nat.beq l k
  |_,_=>false
def eqSO:SO→SO→Bool
 | .box T a,.box U b=>Nat.beq T U&&eqL (eqPV 6) a b
 | .frz a,.frz b=>eqL (eqPV 6) a b
 | .row p e z a,.row q f y b=>p == q&&Nat.beq e f&&Nat.beq z y&&eqL (eqPV 6) a b
 |_,_=>false
def eqAt(id:Nat)(a b:Sto):Bool:=match a[id]?,b[id]? with
 |some x,some y=>eqSO x y
 |_,_=>false
def offOk(y:Tr)(id:Nat):Bool:=Nat.blt id y.b.length && !(y.tch.elem id)
def pairOk(cl:List (List Nat))(i j:Nat)(x y:Tr):Bool:=
 let ord:=(cl.getD j []).elem i||(cl.getD i []).elem j
 match x.d,y.d with
 | .a,.a=>Nat.beq i j||ord
 | .k id,.a=>ord||(offOk y id||eqAt id y.b y.f)
 | .a,.k id=>ord||(offOk x id||eqAt id x.b x.f)
 | .al,.a=>Nat.blt j i||ord
 | .a,.al=>Nat.blt i j||ord
 | .k id,.al=>Nat.blt id y.b.length
 | .al,.k id=>Nat.blt id x.b.length
 |_,_=>true
def allFrom{α:Type}(f:Nat→α→Bool):Nat→List α→Bool
 |_,[]=>true
 |i,x::r=>f i x&&allFrom f (i+1) r
def stat2Pair(cl:List (List Nat))(ops:Array Oper)(i:Nat)(o:Oper)(k:Nat)(o':Oper):Bool:=match o'.dst with
 |none=>true
 |some d=>match Nat.beq k i with
  |true=>!(looks ops o).elem d
  |false=>(!(looks ops o).elem d||((deps o).elem k||(cl.getD k []).elem i)) && !(o.dst == some d)
def statOk2(ops:Array Oper):Bool:=
 let cl:=clos [] ops.toList
 allFrom (fun i o=>(deps o).all (fun x=>Nat.blt x i)&&allFrom (fun k o'=>stat2Pair cl ops i o k o') 0 ops.toList) 0 ops.toList
def drawOk(ops:Array Oper)(l:List Tr):Bool:=
 let cl:=clos [] ops.toList
 statOk2 ops&&allFrom (fun i x=>allFrom (fun j y=>pairOk cl i j x y) 0 l) 0 l
def panOp(C:Cfg)(e:Ev)(ops:Array Oper)(o:Oper)(ρ:AEnv)(st:Sto):Option (PV×Sto):=match guardP ops ρ o.guard with
 |some true=>match o.op with
  | .call ⟨.value g,xs,_⟩=>match sCall C e ρ st g xs.toList with
   |some (.pan v st)=>some (v,st)
   |_=>none
  |_=>none
 |_=>none
def hangs(cl:List (List Nat))(q i:Nat):Bool:=(cl.getD i []).elem q
def drawRest(C:Cfg)(e:Ev)(ops:Array Oper)(cl:List (List Nat))(q:Nat):List Oper→Nat→AS→Option (AS×List Tr)
 |[],_,s=>some (s,[])
 |o::r,i,s=>match hangs cl q i with
  |true=>match drawRest C e ops cl q r (i+1) s with
   |some (s',l)=>some (s',⟨.p,s.st,s.st,touch (aonly (looks ops o) s.env) s.st o.op⟩::l)
   |none=>none
  |false=>match drawOp C e ops o (aonly (looks ops o) s.env) s.st with
   |some (v,st,d)=>match drawRest C e ops cl q r (i+1) ⟨aput o.dst v s.env,st⟩ with
    |some (s',l)=>some (s',⟨d,s.st,st,touch (aonly (looks ops o) s.env) s.st o.op⟩::l)
    |none=>none
   |none=>none
def drawPan(C:Cfg)(e:Ev)(ops:Array Oper)(cl:List (List Nat)):List Oper→Nat→AS→Option (PV×Sto×List Tr)
 |[],_,_=>none
 |o::r,i,s=>match drawOp C e ops o (aonly (looks ops o) s.env) s.st with
  |some (v,st,d)=>match drawPan C e ops cl r (i+1) ⟨aput o.dst v s.env,st⟩ with
   |some (x,st',l)=>some (x,st',⟨d,s.st,st,touch (aonly (looks ops o) s.env) s.st o.op⟩::l)
   |none=>none
  |none=>match panOp C e ops o (aonly (looks ops o) s.env) s.st with
   |some (v,st)=>match drawRest C e ops cl i r (i+1) s with
    |some (_,l)=>some (v,st,⟨.a,s.st,s.st,touch (aonly (looks ops o) s.env) s.st o.op⟩::l)
    |none=>none
   |none=>none
def writes(t:Nat):List Oper→Bool
 |[]=>false
 |o::r=>match o.dst with
  |some d=>match Nat.beq d t with
   |true=>true
   |false=>writes t r
  |none=>writes t r
def aoff(ops:List Oper):AEnv→AEnv
 |[]=>[]
 |(k,v)::r=>match writes k ops with
  |true=>aoff ops r
  |false=>(k,v)::aoff ops r
abbrev Row4:=Oper×AEnv×PV×DK
def drawEnvs(C:Cfg)(e:Ev)(ops:Array Oper):List Oper→AS→List Row4
 |[],_=>[]
 |o::r,s=>match drawOp C e ops o (aonly (looks ops o) s.env) s.st with
  |some (v,st,d)=>(o,aonly (looks ops o) s.env,v,d)::drawEnvs C e ops r ⟨aput o.dst v s.env,st⟩
  |none=>[]
def eqPV2:Nat→PV→PV→Bool
 |0,_,_=>false
 |n+1,x,y=>match x,y with
  | .sc u,.sc v=>eqV u v
  | .ag a,.ag b=>eqL (eqPV2 n) a b
  | .tu a,.tu b=>eqL (eqPV2 n) a b
  | .cp a,.cp b=>eqL (eqPV2 n) a b
  | .ci a,.ci b=>eqL (eqPV2 n) a b
  | .sl f z a,.sl g y b=>f == g&&Nat.beq z y&&eqL (eqPV2 n) a b
  | .ms i l,.ms j k=>Nat.beq i j&&Nat.beq l k
  | .bp i l,.bp j k=>Nat.beq i j&&Nat.beq l k
  | .rp i l p q,.rp j k p' q'=>Nat.beq i j&&Nat.beq l k&&Nat.beq p p'&&Nat.beq q q'
  |_,_=>false
def eqSO2:SO→SO→Bool
 | .box T a,.box U b=>Nat.beq T U&&eqL (eqPV2 400) a b
 | .frz a,.frz b=>eqL (eqPV2 400) a b
 | .dead,.dead=>true
 | .row p e z a,.row q f y b=>p == q&&Nat.beq e f&&Nat.beq z y&&eqL (eqPV2 400) a b
 |_,_=>false
def isAct(W:List Row4)(j:Nat):Bool:=match W[j]? with
 |some (_,_,_,.a)=>true
 |some (_,_,_,.al)=>true
 |_=>false
def insK(n:Nat)(K:List Nat)(j:Nat):List Nat:=(List.range n).filter fun i=>K.elem i||Nat.beq i j
def rdyK(cl:List (List Nat))(W:List Row4)(K:List Nat)(j:Nat):Bool:=(cl.getD j []).all fun i=>!isAct W i||K.elem i
def kOk(C:Cfg)(cl:List (List Nat))(W:List Row4)(K:List Nat)(st:Sto)(j:Nat):Bool:=match W[j]? with
 |some (o,ρ,v,.k _)=>match rdyK cl W K j && !(K.any fun i=>(cl.getD i []).elem j) with
  |true=>match aK C.P ρ st o.op with
   |some v'=>eqPV2 400 v v'
   |none=>false
  |false=>true
 |_=>true
def addL(K:List Nat)(st:Sto)(L:List (List Nat×Sto)):Option (List (List Nat×Sto)):=match L.find? fun x=>x.1 == K with
 |some x=>match eqL eqSO2 x.2 st with
  |true=>some L
  |false=>none
 |none=>some ((K,st)::L)
def nextJ(C:Cfg)(e:Ev)(ops:Array Oper)(cl:List (List Nat))(W:List Row4)(K:List Nat)(st:Sto):List Nat→List (List Nat×Sto)→Option (List (List Nat×Sto))
 |[],L=>some L
 |j::r,L=>match isAct W j&&(!K.elem j&&rdyK cl W K j),W[j]? with
  |true,some (o,ρ,v,_)=>match drawOp C e ops o ρ st with
   |some (v',st',_)=>match eqPV2 400 v v' with
    |true=>match addL (insK ops.size K j) st' L with
     |some L'=>nextJ C e ops cl W K st r L'
     |none=>none
    |false=>none
   |none=>none
  |true,none=>none
  |false,_=>nextJ C e ops cl W K st r L
def nextL(C:Cfg)(e:Ev)(ops:Array Oper)(cl:List (List Nat))(W:List Row4):List (List Nat×Sto)→List (List Nat×Sto)→Option (List (List Nat×Sto))
 |[],L=>some L
 |x::r,L=>match nextJ C e ops cl W x.1 x.2 (List.range ops.size) L with
  |some L'=>nextL C e ops cl W r L'
  |none=>none
def explore(C:Cfg)(e:Ev)(ops:Array Oper)(cl:List (List Nat))(W:List Row4)(sf:Sto):Nat→List (List Nat×Sto)→Bool
 |0,L=>L.isEmpty
 |q+1,L=>L.all (fun x=>(!(Nat.beq x.1.length ((List.range ops.size).filter (isAct W)).length)||eqL eqSO2 x.2 sf)&&(List.range ops.size).all (kOk C cl W x.1 x.2))&&match nextL C e ops cl W L [] with
  |some L'=>explore C e ops cl W sf q L'
  |none=>false
def drawOk2(C:Cfg)(e:Ev)(ops:Array Oper)(s s':AS):Bool:=match drawEnvs C e ops ops.toList s with
 |W=>statOk2 ops&&(Nat.beq W.length ops.size&&explore C e ops (clos [] ops.toList) W s'.st (((List.range ops.size).filter (isAct W)).length+1) [([],s.st)])
def weakS:Sto→Sto→Prop
 |_,[]=>True
 |[],_::_=>False
 |o::r,o'::r'=>(o'=o∨o'=.dead)∧weakS r r'
def wipe(T:List Nat):Nat→Sto→Sto
 |_,[]=>[]
 |k,o::r=>(match T.elem k with
  |true=>.dead
  |false=>o)::wipe T (k+1) r
def actL:List Tr→List Nat
 |[]=>[]
 |t::r=>match t.d with
  | .a=>t.tch++actL r
  |_=>actL r
structure OrdI (C:Cfg) (e:Ev) (ops:Array Oper) (W:List Row4) (I:List Nat→Sto→Prop):Prop where
 look:∀K st,I K st→∀j o ρ v id,j<ops.size→W[j]?=some (o,ρ,v,.k id)→rdyK (clos [] ops.toList) W K j=true→(K.any fun i=>((clos [] ops.toList).getD i []).elem j)=false→aK C.P ρ st o.op=some v
 act:∀K st,I K st→∀j o ρ v d,j<ops.size→(isAct W j&&(!K.elem j&&rdyK (clos [] ops.toList) W K j))=true→W[j]?=some (o,ρ,v,d)→∃st' d',drawOp C e ops o ρ st=some (v,st',d')∧I (insK ops.size K j) st'
def OrdP(C:Cfg)(e:Ev)(ops:Array Oper)(W:List Row4)(s0 sf:Sto):Prop:=∃I:List Nat→Sto→Prop,I [] s0∧OrdI C e ops W I∧∀K st,I K st→K.length=((List.range ops.size).filter (isAct W)).length→st=sf
def PanP(C:Cfg)(e:Ev)(ops:Array Oper)(W:List Row4)(q:Nat)(v:PV)(s0 sp:Sto):Prop:=∃I:List Nat→Sto→Prop,I [] s0∧OrdI C e ops W I∧∀K st,I K st→∀o ρ u d,W[q]?=some (o,ρ,u,d)→rdyK (clos [] ops.toList) W K q=true→∃st',panOp C e ops o ρ st=some (v,st')∧weakS st' sp
def restEnvs(C:Cfg)(e:Ev)(ops:Array Oper)(cl:List (List Nat))(q:Nat):List Oper→Nat→AS→List Row4
 |[],_,_=>[]
 |o::r,i,s=>match hangs cl q i with
  |true=>(o,aonly (looks ops o) s.env,.un,.p)::restEnvs C e ops cl q r (i+1) s
  |false=>match drawOp C e ops o (aonly (looks ops o) s.env) s.st with
   |some (v,st,d)=>(o,aonly (looks ops o) s.env,v,d)::restEnvs C e ops cl q r (i+1) ⟨aput o.dst v s.env,st⟩
   |none=>[]
def panEnvs(C:Cfg)(e:Ev)(ops:Array Oper)(cl:List (List Nat)):List Oper→Nat→AS→Nat×List Row4
 |[],i,_=>(i,[])
 |o::r,i,s=>match drawOp C e ops o (aonly (looks ops o) s.env) s.st with
  |some (v,st,d)=>match panEnvs C e ops cl r (i+1) ⟨aput o.dst v s.env,st⟩ with
   |(q,l)=>(q,(o,aonly (looks ops o) s.env,v,d)::l)
  |none=>(i,(o,aonly (looks ops o) s.env,.un,.p)::restEnvs C e ops cl i r (i+1) s)
noncomputable section
open Classical in
def drawOk3(C:Cfg)(e:Ev)(ops:Array Oper)(s s':AS):Bool:=decide (statOk2 ops=true∧OrdP C e ops (drawEnvs C e ops ops.toList s) s.st s'.st)
open Classical in
def panOk3(C:Cfg)(e:Ev)(ops:Array Oper)(s:AS)(v:PV)(st:Sto):Bool:=decide (statOk2 ops=true∧(pur 8 v=true∧st.all (soIn fun i=>Nat.blt i st.length)=true∧s.env.all (fun p=>inIds (fun i=>Nat.blt i st.length) 8 p.2)=true)∧PanP C e ops (panEnvs C e ops (clos [] ops.toList) ops.toList 0 s).2 (panEnvs C e ops (clos [] ops.toList) ops.toList 0 s).1 v s.st st)
def adraw(C:Cfg)(e:Ev)(ops:Array Oper)(s:AS):Option (AX×AS):=match drawRun C e ops ops.toList s with
 |some (s',l)=>match drawOk ops l||(drawOk2 C e ops s s'||drawOk3 C e ops s s') with
  |true=>some (.normal,s')
  |false=>none
 |none=>match drawPan C e ops (clos [] ops.toList) ops.toList 0 s with
  |some (v,st,l)=>match drawOk ops l with
   |true=>some (.pan v,⟨aoff ops.toList s.env,st⟩)
   |false=>match panOk3 C e ops s v (wipe (actL l) 0 s.st) with
    |true=>some (.pan v,⟨aoff ops.toList s.env,wipe (actL l) 0 s.st⟩)
    |false=>none
  |none=>none
def noRange:Code→Bool
 | .seq a b | .cond _ a b=>noRange a&&noRange b
 | .block _ c | .loop c=>noRange c
 | .rangeFunc .. =>false
 |_=>true
def execRange(C:Cfg)(e:Ev)(f:Operand)(ps:Array Tmp)(a b:Code)(s:AS):Option (AX×AS):=match aval s.env f with
 |some (.fn g xs ys)=>match callable C.P g&&noRange a&&noRange b with
  |true=>match acallS C e g (xs++[.yl s.st.length]++ys) (s.st++[.lp s.env ps.toList a b .ready]) with
   |some (.ret _,st)=>match st[s.st.length]? with
    |some (.lp _ _ _ _ l)=>match l with
     | .ready=>some (.normal,⟨s.env,st.set s.st.length .dead⟩)
     | .done none=>some (.ret,⟨s.env,st.set s.st.length .dead⟩)
     | .done (some i)=>some (.exit i,⟨s.env,st.set s.st.length .dead⟩)
     | .busy=>none
    |_=>none
   |_=>none
  |false=>none
 |_=>none
def exec(C:Cfg)(e:Ev):Code→AS→Option (AX×AS)
 | .skip,s=>some (.normal,s)
 | .seq a b,s=>match exec C e a s with
  |some (.normal,s)=>exec C e b s
  |r=>r
 | .region _ ops draw,s=>match draw with
  |false=>aops C e ops ops.toList s
  |true=>adraw C e ops s
 | .cond c a b,s=>match aval s.env c with
  |some (.sc (.bool v))=>match v with
   |true=>exec C e a s
   |false=>exec C e b s
  |_=>none
 | .block id c,s=>match exec C e c s with
  |some (.exit i,s)=>match Nat.beq i id with
   |true=>some (.normal,s)
   |false=>some (.exit i,s)
  |r=>r
 | .loop c,s=>e.loop (s.env.map (·.1)) s.st.length c s
 | .exit i,s=>some (.exit i,s)
 | .ret,s=>some (.ret,s)
 | .rangeFunc f ps a b,s=>execRange C e f ps a b s
 |_,_=>none
def resP(P:Program)(s:AS):ResultVar→Option PV
 | .tmp t=>aget s.env t
 | .cell t T=>match aget s.env t,tk P T with
  |some p,some (ag,k)=>loadS s.st ag k p
  |_,_=>none
def sweep(k0:Nat)(acc:List Nat):Nat→Sto→Sto
 |_,[]=>[]
 |k,o::r=>(match Nat.blt k k0||acc.elem k with
  |true=>o
  |false=>.dead)::sweep k0 acc (k+1) r
def deads:Sto→Bool
 |[]=>true
 |o::r=>match o with
  | .dead=>deads r
  |_=>false
def trim:Nat→Sto→Sto
 |_,[]=>[]
 |0,o::r=>match deads (o::r) with
  |true=>[]
  |false=>o::trim 0 r
 |k+1,o::r=>o::trim k r
def gc(k0:Nat)(ρ:AEnv)(st:Sto):Sto:=match Nat.beq st.length k0 with
 |true=>st
 |false=>
  let st':=trim k0 (sweep k0 (close st 64 (ρ.flatMap (fun p=>ids 8 p.2)++(st.take k0).flatMap idsSO) []) 0 st)
  let f:=fun i=>Nat.blt i st'.length
  match ρ.all (fun p=>inIds f 8 p.2)&&st'.all (soIn f) with
  |true=>st'
  |false=>st
def livesL:Nat→Sto→List Nat
 |_,[]=>[]
 |k,o::r=>match o with
  | .dead=>livesL (k+1) r
  |_=>k::livesL (k+1) r
def uptoL:Nat→Nat→List Nat
 |_,0=>[]
 |k,n+1=>k::uptoL (k+1) n
def squeezeBy(π:List Nat)(rs:List PV)(st:Sto):List PV×Sto:=match Nat.beq π.length st.length with
 |true=>(rs,st)
 |false=>match rs.all (inIds (fun i=>π.elem i) 8),fetch (fun i=>place i 0 π) (fun i=>π.elem i) st π with
  |true,some st'=>(rs.map (renPV (fun i=>place i 0 π) 8),st')
  |_,_=>(rs,st)
def squeeze(k0:Nat)(rs:List PV)(st:Sto):List PV×Sto:=squeezeBy (uptoL 0 k0++livesL k0 (st.drop k0)) rs st
def aret(C:Cfg)(f:FuncId)(k0:Nat)(rs:List PV)(st:Sto):Option (List PV×Sto):=
 match(match C.keep f with
  |true=>some (rs,st)
  |false=>pubL C rs st) with
 |some (rs,st)=>match rs.all (pur 8)&&(st.take k0).all (soIn fun i=>Nat.blt i k0) with
  |true=>some (rs,st.take k0)
  |false=>some (squeeze k0 rs (gc k0 (rs.map fun r=>(0,r)) st))
 |none=>none
def argE:Nat→List PV→AEnv
 |_,[]=>[]
 |i,v::r=>(i,v)::argE (i+1) r
def panS(k0:Nat)(v:PV)(st:Sto):Sto:=match pur 8 v&&(st.take k0).all (soIn fun i=>Nat.blt i k0) with
 |true=>st.take k0
 |false=>st
def endF(C:Cfg)(f:FuncId)(fn:Func)(k0:Nat):AX→AS→Option (AEnd×Sto)
 | .normal,s | .ret,s=>match mapO (resP C.P s) fn.results.toList with
  |some rs=>match aret C f k0 rs s.st with
   |some (rs,st)=>some (.ret rs,st)
   |none=>none
  |none=>none
 | .pan v,s=>some (.pan v,panS k0 v s.st)
 |_,_=>none
def defOf:Op→Option Operand
 | .defer ⟨.value g,xs,_⟩=>match xs.toList with
  |[]=>some g
  |_=>none
 |_=>none
def cutR:Code→Option (Array Oper×Oper×Operand)
 | .region _ ops false=>match ops.toList with
  |[o,d]=>match defOf d.op,d.guard,d.dst with
   |some g,none,none=>some (ops,o,g)
   |_,_,_=>none
  |_=>none
 |_=>none
def cutC:Code→Bool
 | .seq a b=>match cutR a with
  |some _=>true
  |none=>cutC b
 |_=>false
def execD(C:Cfg)(e:Ev):Code→AS→Option (AX×AS×Option PV)
 | .seq a b,s=>match cutR a with
  |some (ops,o,g)=>match aops C e ops [o] s with
   |some (.normal,s1)=>match aval s1.env g with
    |some (.fn D p q)=>match exec C e b s1 with
     |some (x,s2)=>some (x,s2,some (.fn D p q))
     |none=>none
    |_=>none
   |_=>none
  |none=>match exec C e a s with
   |some (.normal,s1)=>execD C e b s1
   |some (x,s1)=>some (x,s1,none)
   |none=>none
 |c,s=>match exec C e c s with
  |some (x,s1)=>some (x,s1,none)
  |none=>none
def recOf(o:Oper):Option Nat:=match o.op,o.guard,o.dst with
 | .call ⟨.builtin .recover,xs,_⟩,none,some d=>match xs.toList with
  |[]=>some d
  |_=>none
 |_,_,_=>none
def recR:Code→Option (Array Oper×Nat×List Oper)
 | .region _ ops false=>match ops.toList with
  |o::r=>match recOf o with
   |some d=>some (ops,d,r)
   |none=>none
  |[]=>none
 |_=>none
def recC:Code→Option (Array Oper×Nat×List Oper×Code)
 | .seq a b=>match recR a with
  |some (ops,d,r)=>some (ops,d,r,b)
  |none=>none
 |c=>match recR c with
  |some (ops,d,r)=>some (ops,d,r,.skip)
  |none=>none
def flatC:Code→Bool
 | .seq a b | .cond _ a b=>flatC a&&flatC b
 | .block _ c=>flatC c
 | .region .. | .skip | .exit _ | .ret=>true
 |_=>false
def nilOr:Option PV→PV
 |some v=>v
 |none=>.sc .nilIface
def dend:AX×AS→Option (Option PV×Sto)
 |(.normal,s)|(.ret,s)=>some (none,s.st)
 |(.pan v,s)=>some (some v,s.st)
 |_=>none
def dcallF(C:Cfg)(e:Ev)(D:FuncId)(args:List PV)(v:Option PV)(st:Sto):Option (Option PV×Sto):=match C.P.funcs[D]? with
 |some fn=>match fn.body with
  |some c=>match recC c with
   |some (ops,d,r,rest)=>match Nat.ble args.length fn.ntmps&&(callable C.P D&&(fn.results.toList.isEmpty&&(!cutC c&&flatC rest))) with
    |true=>match aops C e ops r ⟨aput (some d) (nilOr v) (argE 0 args),st⟩ with
     |some (.normal,s1)=>match exec C e rest s1 with
      |some q=>dend q
      |none=>none
     |some q=>dend q
     |none=>none
    |false=>none
   |none=>none
  |none=>none
 |none=>none
def panOf:AX→Option (Option PV)
 | .normal | .ret=>some none
 | .pan v=>some (some v)
 |_=>none
def endD(C:Cfg)(e:Ev)(f:FuncId)(fn:Func)(k0:Nat)(x:AX)(s:AS):Option PV→Option (AEnd×Sto)
 |none=>endF C f fn k0 x s
 |some cl=>match cl,panOf x with
  | .fn D a b,some v=>match dcallF C e D (a++b) v s.st with
   |some (none,st)=>endF C f fn k0 .ret ⟨s.env,st⟩
   |some (some v',st)=>some (.pan v',panS k0 v' st)
   |none=>none
  |_,_=>none
def callF(C:Cfg)(e:Ev)(f:FuncId)(args:List PV)(st:Sto):Option (AEnd×Sto):=
 match C.nat f with
 |some F=>F args st
 |none=>match C.P.funcs[f]? with
  |some fn=>match fn.body with
   |some c=>match Nat.ble args.length fn.ntmps with
    |true=>match cutC c with
     |false=>match exec C e c ⟨argE 0 args,st⟩ with
      |some (x,s)=>endF C f fn st.length x s
      |none=>none
     |true=>match execD C e c ⟨argE 0 args,st⟩ with
      |some (x,s,cl)=>endD C e f fn st.length x s cl
      |none=>none
    |false=>none
   |none=>none
  |none=>none
def canon(ks:List Nat)(ρ:AEnv):Option AEnv:=mapO (fun k=>match aget ρ k with
 |some v=>some (k,v)
 |none=>none) ks
def rezip:AEnv→List PV→AEnv
 |(t,_)::r,v::vs=>(t,v)::rezip r vs
 |_,_=>[]
def again(C:Cfg)(k0:Nat)(ρ:AEnv)(st:Sto):AEnv×Sto:=match C.sqz with
 |true=>(rezip ρ (squeeze k0 (ρ.map (·.2)) (gc k0 ρ st)).1,(squeeze k0 (ρ.map (·.2)) (gc k0 ρ st)).2)
 |false=>(ρ,gc k0 ρ st)
def loopF(C:Cfg)(e:Ev)(ks:List Nat)(k0:Nat)(c:Code)(s:AS):Option (AX×AS):=match exec C e c s with
 |some (.normal,s)=>match canon ks s.env with
  |some ρ=>e.loop ks k0 c ⟨(again C k0 ρ s.st).1,(again C k0 ρ s.st).2⟩
  |none=>none
 |r=>r
def putPs:List Nat→List PV→AEnv→AEnv
 |t::ps,v::vs,ρ=>putPs ps vs (aput (some t) v ρ)
 |_,_,ρ=>ρ
def yieldEnd(k0:Nat)(st:Sto):Sto:=match(st.take k0).all (soIn fun i=>Nat.blt i k0) with
 |true=>st.take k0
 |false=>(squeeze k0 [] (gc k0 [] st)).2
def yieldF(C:Cfg)(e:Ev)(args:List PV)(st:Sto):Option (AEnd×Sto):=match args with
 | .yl id::vs=>match st[id]? with
  |some (.lp ρ ps a b .ready)=>match Nat.beq vs.length ps.length&&(noRange a&&noRange b),exec C e a ⟨putPs ps vs ρ,st⟩ with
   |true,some (.normal,s1)=>match s1.st[id]? with
    |some (.lp ρ1 ps1 a1 b1 .ready)=>match exec C e b ⟨s1.env,s1.st.set id (.lp ρ1 ps1 a1 b1 .busy)⟩ with
     |some (x,s2)=>match s2.st[id]? with
      |some (.lp ρ2 ps2 a2 b2 .busy)=>match x with
       | .normal=>some (.ret [.sc (.bool true)],yieldEnd st.length (s2.st.set id (.lp ρ2 ps2 a2 b2 .ready)))
       | .ret=>some (.ret [.sc (.bool false)],yieldEnd st.length (s2.st.set id (.lp ρ2 ps2 a2 b2 (.done none))))
       | .exit i=>some (.ret [.sc (.bool false)],yieldEnd st.length (s2.st.set id (.lp ρ2 ps2 a2 b2 (.done (some i)))))
       | .pan _=>none
      |_=>none
     |none=>none
    |_=>none
   |_,_=>none
  |_=>none
 |_=>none
def ev(C:Cfg):Nat→Ev
 |0=>⟨fun _ _ _=>none,fun _ _ _ _=>none,fun _ _=>none⟩
 |n+1=>⟨callF C (ev C n),loopF C (ev C n),yieldF C (ev C n)⟩
def acall(C:Cfg)(n:Nat)(f:FuncId)(args:List PV)(st:Sto):Option (AEnd×Sto):=(ev C n).call f args st
end
end Go.Am

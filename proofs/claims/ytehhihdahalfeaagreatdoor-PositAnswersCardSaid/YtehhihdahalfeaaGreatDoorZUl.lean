/-
  What package tele opens. No statement of the seat.
-/
import Derived.Test.YtehhihdahalfeaaGreatDoorZUf
import Derived.Test.YtehhihdahalfeaaGreatDoorZNk
import Derived.Test.YtehhihdahalfeaaGreatDoorZUe
set_option linter.unusedVariables false
set_option linter.unusedSimpArgs false
set_option linter.unnecessarySimpa false
namespace Go.Proofs.YtehhihdahalfeaaGreatDoor
open Go Go.Am Go.Gw
def encLo (x:List UInt8 × Tm):PV:=.ag (sv x.1 :: (encT x.2).cells)
def encLos (l:List (List UInt8 × Tm)):PV:=match l with
  |[]=>.sl true 0 []
  |x :: r=>.sl false 6 ((x :: r).map encLo)
def openV (o:Option (List (List UInt8 × Tm) × Tm)):List PV:=match o with
  |some (l,b)=>[encLos l,encT b,bv true]
  |none=>[.sl true 0 [],encT tz,bv false]
def LoW (x:List UInt8 × Tm):Prop:=TmW x.2∧x.1.length ≤ 140737488355328
end Go.Proofs.YtehhihdahalfeaaGreatDoor
namespace Go.Proofs.YtehhihdahalfeaaGreatDoor
open Go Go.Am Go.Gw
def backP (b:Bool) (z:Nat) (xs:List PV):PV:=.fn 91 [] [.cp [.sl b z xs]]
def closeV (o:Option Tm):List PV:=match o with
  |some x=>[encT x,bv true]
  |none=>[encT tz,bv false]
def stepC (kind:Int) (x:List UInt8 × Tm) (o:Tm):Option Tm:=match AbsF o [x.1] with
  |none=>none
  |some b=>if anyT x.2=true then some (.mk kind 0 [] [] [x.2,b]) else none
def clLP (q:TV) (b:Bool) (z:Nat) (xs:List PV) (kind:Int) (x1 x2:Bool) (a c:Code) (s:LpS):SO:=.lp [(24,backP b z xs),(23,.sl b z xs),(8,.bp 1 0),(22,.ag q.cs),(20,bv (!x1)),(19,bv (!x1)),(18,bv x1),(17,.ag q.cs),(16,bv (!x2)),(15,bv (!x2)),(14,bv x2),(13,iv kind),(7,.bp 2 0),(6,.bp 3 0),(4,.bp 4 0),(3,.bp 5 0),(0,iv kind),(1,.ag q.cs),(2,.sl b z xs)] [25,26] a c s
def clS (lp:SO) (q:TV) (kind:Int) (w:TV):Sto:=[lp,.box 25 w.cs,.box 4 [bv false],.box 25 zTm,.box 25 q.cs,.box 3 [iv kind]]
/-- what the body does -/
def ClOk (lp:LpS→SO) (q:TV) (kind:Int):Prop:=∀ (i:Int) (x:List UInt8 × Tm) (v:PV),LoP x v→∀ (o:Tm) (w:TV),TmP o (.ag w.cs)→FindsY C1 [.yl 0,iv i,v] (clS (lp .ready) q kind w) fun r st=>match stepC kind x o with
  |some o'=>r = .ret [bv true]∧∃ w',TmP o' (.ag (TV.cs w'))∧st=clS (lp .ready) q kind w'
  |none=>r = .ret [bv false]∧st=clS (lp (.done none)) q kind w
end Go.Proofs.YtehhihdahalfeaaGreatDoor
namespace Go.Proofs.YtehhihdahalfeaaGreatDoor
open Go Go.Am Go.Gw
def underP (p:List UInt8):PV:=.fn 78 [] [.cp [sv p]]
/- the first of texts that is as told -/
def idxP (q:List UInt8→Bool):List (List UInt8)→Nat→Int
  |[],_=>-1
  |t :: r,i=>if q t=true then i else idxP q r (i + 1)
mutual
theorem consts_names:∀ (t:Tm) (p kk:Int),allT t p kk=true→∀ c ∈ constsT t,nameF c=true
  | .mk k n s ls ts,p,kk,ha,c,hc=>by
    obtain ⟨hk,hl,hnd,-,hts⟩:=allT_parts ha
    rw [constsT,List.mem_append] at hc
    rcases hc with hc|hc
    · split at hc
      · rename_i h3
        simp at hc
        subst hc
        simp only [nodeT,if_neg (show ¬ k=1 by omega),if_pos h3,Bool.and_eq_true] at hnd
        exact hnd.2.1
      · simp at hc
    · exact consts_namess ts k 0 p kk hts c hc
theorem consts_namess:∀ (ts:List Tm) (k i p kk:Int),allTs ts k i p kk=true→∀ c ∈ constsTs ts,nameF c=true
  |[],k,i,p,kk,ha,c,hc=>by simp [constsTs] at hc
  |t :: r,k,i,p,kk,ha,c,hc=>by
    simp only [allTs,Bool.and_eq_true] at ha
    rw [constsTs,List.mem_append] at hc
    rcases hc with hc|hc
    · exact consts_names t p _ ha.1 c hc
    · exact consts_namess r k (i + 1) p kk ha.2 c hc
end
def usesF (p:List UInt8) (t:Tm):Bool:=(ConstsF t).any fun s=>underF s p
def usesP (p:List UInt8):PV:=.fn 81 [] [.cp [underP p]]
/-- a top under which no constant of a term stands -/
def FreeOk (t:Tm) (m:Nat):Prop:=m ≤ 2000∧usesF (topF m) t=false
end Go.Proofs.YtehhihdahalfeaaGreatDoor
namespace Go.Proofs.YtehhihdahalfeaaGreatDoor
open Go Go.Am Go.Gw
end Go.Proofs.YtehhihdahalfeaaGreatDoor
namespace Go.Proofs.YtehhihdahalfeaaGreatDoor
open Go Go.Am Go.Gw
theorem eqTm_self (t:Tm):eqTm t t=true:=(eqTm_eq t t).2 rfl
end Go.Proofs.YtehhihdahalfeaaGreatDoor

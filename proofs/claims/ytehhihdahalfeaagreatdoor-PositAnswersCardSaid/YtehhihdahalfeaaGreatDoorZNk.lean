/-
  What is opened by names and closed again: plain lemmas. No program in sight.
-/
import Derived.Test.YtehhihdahalfeaaGreatDoorZNl
import Derived.Test.YtehhihdahalfeaaGreatDoorZUc
import Derived.Test.YtehhihdahalfeaaGreatDoorZTy
import Derived.Lib.ItoaLen
import Derived.Lib.Strings
import Derived.Test.YtehhihdahalfeaaGreatDoorZTc
set_option linter.unusedVariables false
set_option linter.unusedSimpArgs false
set_option linter.unnecessarySimpa false
namespace Go.Proofs.YtehhihdahalfeaaGreatDoor
open Go Go.Am Go.Gw
/-- what is opened, one behind the other -/
def opT:List (List UInt8 × Tm)→List Tm→List (List UInt8)→Option (List (List UInt8 × Tm))
  |don,[],_=>some don
  |_,_ :: _,[]=>none
  |don,s :: r,n :: ns=>match InstF s (don.map fun x=>cn x.1) with
    |some x=>opT (don ++ [(n,x)]) r ns
    |none=>none
def OpenF (t:Tm) (kind:Int) (ns:List (List UInt8)):Option (List (List UInt8 × Tm) × Tm):=match SplitF t kind ns.length with
  |none=>none
  |some (ss,body)=>match opT [] ss ns with
    |none=>none
    |some l=>match InstF body (l.map fun x=>cn x.1) with
      |none=>none
      |some b=>some (l,b)
def AbsF (t:Tm) (ns:List (List UInt8)):Option Tm:=if anyT t=true∧ns.length ≤ 1048576 then madeF (absF ns) t else none
/-- binders over a body, the last local first -/
def closeR (kind:Int):List (List UInt8 × Tm)→Tm→Option Tm
  |[],out=>some out
  |x :: r,out=>match AbsF out [x.1] with
    |none=>none
    |some b=>if anyT x.2=true then closeR kind r (.mk kind 0 [] [] [x.2,b]) else none
def CloseF (kind:Int) (body:Tm) (l:List (List UInt8 × Tm)):Option Tm:=if binderB kind=true∧anyT body=true then (match closeR kind l.reverse body with
  |none=>none
  |some o=>if anyT o=true then some o else none) else none
/- binders -/
def bindL (kind:Int) (ss:List Tm) (body:Tm):Tm:=ss.foldr (fun s b=>.mk kind 0 [] [] [s,b]) body
/- what is opened -/
def opL:List (List UInt8)→List (List UInt8)→List Tm→List (List UInt8 × Tm)
  |don,n :: ns,s :: ss=>(n,plF (opF don) s 0) :: opL (don ++ [n]) ns ss
  |_,_,_=>[]
end Go.Proofs.YtehhihdahalfeaaGreatDoor
namespace Go.Proofs.YtehhihdahalfeaaGreatDoor
open Go Go.Gw
/- numbers as digits -/
def valD (l:List UInt8):Nat:=l.foldl (fun a c=>a * 10 + (c.toNat - 48)) 0
def isDig (c:UInt8):Bool:=decide (48 ≤ c.toNat∧c.toNat ≤ 57)
/-- the top of names -/
def topF (m:Nat):List UInt8:=108 :: Lib.decDigits m
def underF (s p:List UInt8):Bool:=nameF s && (nameF p && (s == p || Lib.hasPrefix s (p ++ [46])))
section
open Classical
/-- how many names stand under a top from some number on -/
noncomputable def cntU (l:List (List UInt8)) (n:Nat):Nat:=l.countP fun s=>decide (∃ m,n ≤ m∧underF s (topF m)=true)
end
/-- names under a top -/
def xF (m i:Nat):List UInt8:=topF m ++ [46,120] ++ Lib.decDigits i
def namesF (m n:Nat):List (List UInt8):=(List.range n).map (xF m)
end Go.Proofs.YtehhihdahalfeaaGreatDoor
namespace Go.Proofs.YtehhihdahalfeaaGreatDoor
open Go Go.Gw
end Go.Proofs.YtehhihdahalfeaaGreatDoor

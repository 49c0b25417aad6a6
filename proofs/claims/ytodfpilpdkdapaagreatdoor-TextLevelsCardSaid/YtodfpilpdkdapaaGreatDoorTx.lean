/-
  Plain functions of package text: texts of levels, terms, declarations; reading them. No program in sight.
-/
import Derived.Test.YtodfpilpdkdapaaGreatDoorTp
import Derived.Lib.ItoaNum
import Derived.Lib.Join
namespace Go.Gw
open Go

def groupF (parts : List (List UInt8)) : List UInt8 := [40] ++ Lib.join parts [32] ++ [41]
def signF (k : Int) : List UInt8 := if k = 3 then [43] else if k = 4 then [124] else if k = 5 then [63] else []
def binderF (k : Int) : List UInt8 := if k = 5 then [92] else if k = 6 then [62] else if k = 7 then [61] else []
mutual
def lvText : Lv → List UInt8
  | .mk k n ls => if k = 1 then Lib.itoa n else if k = 2 then [117] ++ Lib.itoa n else groupF (signF k :: lvTexts ls)
def lvTexts : List Lv → List (List UInt8)
  | [] => []
  | l :: r => lvText l :: lvTexts r
end
def levelText (l : Lv) : List UInt8 := if rightF l 4 = true then lvText l else []

/- a term's text, and the texts of its spine's parts -/
mutual
def txT : Tm → List UInt8 × List (List UInt8)
  | .mk k n s ls ts =>
    let cs := txTs ts
    if k = 4 then
      let parts := (cs.getD 0 ([], [])).2 ++ [(cs.getD 1 ([], [])).1]
      (groupF parts, parts)
    else
      let t := if k = 1 then [35] ++ Lib.itoa n else if k = 2 then groupF [[42], lvText (ls.getD 0 (.mk 0 0 []))] else if k = 3 then (if ls.length = 0 then s else groupF ([64] :: s :: lvTexts ls)) else groupF (binderF k :: cs.map (·.1))
      (t, [t])
def txTs : List Tm → List (List UInt8 × List (List UInt8))
  | [] => []
  | t :: r => txT t :: txTs r
end
def termText (t : Tm) : List UInt8 := if rightT t 4 1125899906842624 = true then (txT t).1 else []

/- reading: none where the text is none -/
def isEnd (c : UInt8) : Bool := c == 32 || c == 40 || c == 41
def wordF : List UInt8 → List UInt8 × List UInt8
  | [] => ([], [])
  | c :: r => if isEnd c then ([], c :: r) else ((c :: (wordF r).1), (wordF r).2)
def numF (s : List UInt8) : Option Int := if s = [] then none else if s.length ≤ 18 ∧ s.all (fun c => 48 ≤ c && c ≤ 57) then some (s.foldl (fun a c => a * 10 + ((c.toNat : Int) - 48)) 0) else none
def signK (s : List UInt8) : Int := if s = [43] then 3 else if s = [124] then 4 else if s = [63] then 5 else 0
mutual
def readLv : Nat → List UInt8 → Option (Lv × List UInt8)
  | 0, _ => none
  | fuel + 1, s => match s with
    | [] => none
    | 40 :: r =>
      let w := wordF r
      match readLvs fuel w.2 with
      | some (ls, 41 :: r') => some (.mk (signK w.1) 0 ls, r')
      | _ => none
    | s =>
      let w := wordF s
      match w.1 with
      | 117 :: d => (numF d).map fun n => (.mk 2 n [], w.2)
      | d => (numF d).map fun n => (.mk 1 n [], w.2)
def readLvs : Nat → List UInt8 → Option (List Lv × List UInt8)
  | 0, _ => none
  | fuel + 1, s => match s with
    | 32 :: r => match readLv fuel r with
      | some (l, r') => (readLvs fuel r').map fun p => (l :: p.1, p.2)
      | none => none
    | s => some ([], s)
end
def binderK (s : List UInt8) : Int := if s = [92] then 5 else if s = [62] then 6 else if s = [61] then 7 else 0
def appF (f : Tm) : List Tm → Tm
  | [] => f
  | x :: r => appF (.mk 4 0 [] [] [f, x]) r
mutual
def readTm : Nat → List UInt8 → Option (Tm × List UInt8)
  | 0, _ => none
  | fuel + 1, s => match s with
    | [] => none
    | 40 :: r => match readGr fuel r with
      | some (t, 41 :: r') => some (t, r')
      | _ => none
    | s =>
      let w := wordF s
      match w.1 with
      | 35 :: d => (numF d).map fun n => (.mk 1 n [] [] [], w.2)
      | d => some (.mk 3 0 d [] [], w.2)
def readGr : Nat → List UInt8 → Option (Tm × List UInt8)
  | 0, _ => none
  | fuel + 1, s => match s with
    | 42 :: 32 :: r => (readLv fuel r).map fun p => (.mk 2 0 [] [p.1] [], p.2)
    | 64 :: 32 :: r => let w := wordF r
      (readLvs fuel w.2).map fun p => (.mk 3 0 w.1 p.1 [], p.2)
    | c :: 32 :: r => if binderK [c] = 0 then (match readTm fuel (c :: 32 :: r) with
        | some (t, r') => (readTms fuel r').map fun p => (appF t p.1, p.2)
        | none => none)
      else (readTms fuel (32 :: r)).map fun p => (.mk (binderK [c]) 0 [] [] p.1, p.2)
    | s => match readTm fuel s with
        | some (t, r') => (readTms fuel r').map fun p => (appF t p.1, p.2)
        | none => none
def readTms : Nat → List UInt8 → Option (List Tm × List UInt8)
  | 0, _ => none
  | fuel + 1, s => match s with
    | 32 :: r => match readTm fuel r with
      | some (t, r') => (readTms fuel r').map fun p => (t :: p.1, p.2)
      | none => none
    | s => some ([], s)
end

end Go.Gw

/-
  Layer 18's tree, and what package posit begins with of it: closed calls, reckoned. No statement of the seat.
-/
import Derived.Test.YtehhihdahalfeaaGreatDoorZLj
import Derived.Test.YtehhihdahalfeaaGreatDoorZUm
set_option linter.unusedVariables false
set_option linter.unusedSimpArgs false
set_option linter.unnecessarySimpa false
namespace Go.Proofs.YtehhihdahalfeaaGreatDoor
open Go Go.Am Go.Gw
/-- the tree's constructors -/
def treeC : List PV := [(.ag [sv [108, 101, 97, 102], iv 6, iv 0, sv [], (.sl true 0 []), (.sl false 5 [(.ag [iv 2, iv 0, sv [], (.sl true 3 [(.ag [iv 1, iv 1, (.sl true 0 [])])]), (.sl true 0 [])]), (.ag [iv 4, iv 0, sv [], (.sl true 0 []), (.sl true 5 [(.ag [iv 3, iv 0, sv [116, 114, 101, 101], (.sl true 0 []), (.sl true 0 [])]), (.ag [iv 1, iv 0, sv [], (.sl true 0 []), (.sl true 0 [])])])])])]), (.ag [sv [110, 111, 100, 101], iv 6, iv 0, sv [], (.sl true 0 []), (.sl false 5 [(.ag [iv 2, iv 0, sv [], (.sl true 3 [(.ag [iv 1, iv 1, (.sl true 0 [])])]), (.sl true 0 [])]), (.ag [iv 6, iv 0, sv [], (.sl true 0 []), (.sl false 5 [(.ag [iv 6, iv 0, sv [], (.sl true 0 []), (.sl false 5 [(.ag [iv 1, iv 0, sv [], (.sl true 0 []), (.sl true 0 [])]), (.ag [iv 4, iv 0, sv [], (.sl true 0 []), (.sl true 5 [(.ag [iv 3, iv 0, sv [116, 114, 101, 101], (.sl true 0 []), (.sl true 0 [])]), (.ag [iv 1, iv 1, sv [], (.sl true 0 []), (.sl true 0 [])])])])])]), (.ag [iv 4, iv 0, sv [], (.sl true 0 []), (.sl true 5 [(.ag [iv 3, iv 0, sv [116, 114, 101, 101], (.sl true 0 []), (.sl true 0 [])]), (.ag [iv 1, iv 1, sv [], (.sl true 0 []), (.sl true 0 [])])])])])])])])]
/-- the tree -/
def treeV : PV := .ag [iv 5, iv 0, sv [116, 114, 101, 101], iv 6, iv 0, sv [], (.sl true 0 []), (.sl false 5 [(.ag [iv 2, iv 0, sv [], (.sl true 3 [(.ag [iv 1, iv 1, (.sl true 0 [])])]), (.sl true 0 [])]), (.ag [iv 2, iv 0, sv [], (.sl true 3 [(.ag [iv 1, iv 1, (.sl true 0 [])])]), (.sl true 0 [])])]), iv 0, iv 0, sv [], (.sl true 0 []), (.sl true 0 []), iv 1, .ms 0 2]
/-- the tree, once it is handed on -/
def treeS : PV := .ag [iv 5, iv 0, sv [116, 114, 101, 101], iv 6, iv 0, sv [], (.sl true 0 []), (.sl false 5 [(.ag [iv 2, iv 0, sv [], (.sl true 3 [(.ag [iv 1, iv 1, (.sl true 0 [])])]), (.sl true 0 [])]), (.ag [iv 2, iv 0, sv [], (.sl true 3 [(.ag [iv 1, iv 1, (.sl true 0 [])])]), (.sl true 0 [])])]), iv 0, iv 0, sv [], (.sl true 0 []), (.sl true 0 []), iv 1, .sl false 6 treeC]
/-- the maker of its form -/
def treeM : PV := .cp [iv 5, iv 0, sv [116, 114, 101, 101], iv 6, iv 0, sv [], (.sl true 0 []), (.sl false 5 [(.ag [iv 2, iv 0, sv [], (.sl true 3 [(.ag [iv 1, iv 1, (.sl true 0 [])])]), (.sl true 0 [])]), (.ag [iv 2, iv 0, sv [], (.sl true 3 [(.ag [iv 1, iv 1, (.sl true 0 [])])]), (.sl true 0 [])])]), iv 0, iv 0, sv [], (.sl true 0 []), (.sl true 0 []), iv 1, .sl false 6 treeC, iv 3, iv 0, sv [116, 114, 101, 101], (.sl true 0 []), (.sl true 0 []), iv 0]
def treeF : PV := (.ag [iv 0, iv 1, iv 1, (.sl true 0 []), (.sl true 0 [])])
theorem tree_can : Finds C1 33 [] [] fun r st => r = .ret [treeV] ∧ st = [.row false 72 6 treeC] := finds_of 60 (by kernel_rfl) ⟨rfl, rfl⟩
end Go.Proofs.YtehhihdahalfeaaGreatDoor
namespace Go.Proofs.YtehhihdahalfeaaGreatDoor
open Go Go.Am Go.Gw
def treeN : List UInt8 := [116, 114, 101, 101]
theorem finds_tree {K : AEnd → Sto → Prop} (k : K (.ret [treeV]) [.row false 72 6 treeC]) : Finds C1 33 [] [] K := Finds.mono tree_can (by rintro _ _ ⟨rfl, rfl⟩; exact k)
end Go.Proofs.YtehhihdahalfeaaGreatDoor

/-
  DERIVED. GIVEN WITH THE SEED: THE CARDS: each row of YtodfpilpdkdapaaGreatDoorRows.lean that lists a variable, with what it lists TIED to the program's text (the seventh form; the later family's looks); each row that meets fmt, with fmt's text TOLD by the authors' own Lean function (tested against real Go, not proved from fmt's source: count such statements apart). THE CARD IS WHAT COUNTS. Prove the row's statement (the work); the ties are given (YtodfpilpdkdapaaGreatDoorTie.lean); close each card by the builder's one call (the guide's Derived/Test/ToyasCard.lean, 'card_holds'). Laid BY PROGRAM, IN A SANDBOX (cutbox-door.mjs). By AI agents, Wed Nov 11 2026. No macro, syntax, notation, axiom, sorry.
-/
import Derived.Test.YtodfpilpdkdapaaGreatDoorRows
import GoSem.ClaimSeven
namespace Go.Proofs.YtodfpilpdkdapaaGreatDoor
namespace Rows

/-- THE TIED CARD OF 'scholiumlaw07.TextLevels'. -/
def textLevelsCard : Claim7 := { stood := { row := textLevelsRow, standIns := [], harness := (true, "4053d9207ecafb5f1accfa95730c696eb6b31bac051e94726ea641a8a505d68b"), looks := true }, kinds := [], alts := [], laidByText := true, laidKinds := [.data, .data, .data, .data, .sentinel, .sentinel, .pinned], laidTests := true, laidLooks := .later }
def TextLevelsCardSaid : Prop := Claim7.holds Tryz.pinned (.plain (OpenSpec.ofChange textLevelsSpec)) textLevelsCard

/-- THE SECOND FORM's CARD OF 'scholiumlaw07.TextLevels'. -/
def textLevelsUptoCard : Claim7 := { stood := { row := textLevelsUptoRow, standIns := [], harness := (true, "4053d9207ecafb5f1accfa95730c696eb6b31bac051e94726ea641a8a505d68b"), looks := true }, kinds := [], alts := [], laidByText := true, laidKinds := [.data, .data, .data, .data, .sentinel, .sentinel, .pinned], laidTests := true, laidLooks := .later }
def TextLevelsUptoCardSaid : Prop := Claim7.holds Tryz.pinned (.plain (OpenSpec.upto textLevelsSpec)) textLevelsUptoCard
end Rows
end Go.Proofs.YtodfpilpdkdapaaGreatDoor

/-
  DERIVED. GIVEN WITH THE SEED: THE CARDS: each row of YtehhihdahalfeaaGreatDoorRows.lean that lists a variable, with what it lists TIED to the program's text (the seventh form; the later family's looks); each row that meets fmt, with fmt's text TOLD by the authors' own Lean function (tested against real Go, not proved from fmt's source: count such statements apart). THE CARD IS WHAT COUNTS. Prove the row's statement (the work); the ties are given (YtehhihdahalfeaaGreatDoorTie.lean); close each card by the builder's one call (the guide's Derived/Test/ToyasCard.lean, 'card_holds'). Laid BY PROGRAM, IN A SANDBOX (cutbox-door.mjs). By AI agents, Wed Nov 11 2026. No macro, syntax, notation, axiom, sorry.
-/
import Derived.Test.YtehhihdahalfeaaGreatDoorRows
import GoSem.ClaimSeven
namespace Go.Proofs.YtehhihdahalfeaaGreatDoor
namespace Rows

/-- THE TIED CARD OF 'scholiumlaw17.TeleBack'. -/
def teleBackCard : Claim7 := { stood := { row := teleBackRow, standIns := [], harness := (true, "7b7b399d02c14a3784847d7d5c12bbcf87eb567663d3f82a80a8b3cbf6ec73fa"), looks := true }, kinds := [], alts := [], laidByText := true, laidKinds := [.data, .data, .data, .data, .sentinel, .sentinel, .pinned], laidTests := true, laidLooks := .later }
def TeleBackCardSaid : Prop := Claim7.holds Tryz.pinned (.plain (OpenSpec.ofChange teleBackSpec)) teleBackCard

/-- THE TIED CARD OF 'scholiumlaw18.PositAnswers'. -/
def positAnswersCard : Claim7 := { stood := { row := positAnswersRow, standIns := [], harness := (true, "7b7b399d02c14a3784847d7d5c12bbcf87eb567663d3f82a80a8b3cbf6ec73fa"), looks := true }, kinds := [], alts := [], laidByText := true, laidKinds := [.data, .data, .data, .data, .sentinel, .sentinel, .pinned], laidTests := true, laidLooks := .later }
def PositAnswersCardSaid : Prop := Claim7.holds Tryz.pinned (.plain (OpenSpec.ofChange positAnswersSpec)) positAnswersCard

/-- THE TIED CARD OF 'scholiumlaw18.PositForms'. -/
def positFormsCard : Claim7 := { stood := { row := positFormsRow, standIns := [], harness := (true, "7b7b399d02c14a3784847d7d5c12bbcf87eb567663d3f82a80a8b3cbf6ec73fa"), looks := true }, kinds := [], alts := [], laidByText := true, laidKinds := [.data, .data, .data, .data, .sentinel, .sentinel, .pinned], laidTests := true, laidLooks := .later }
def PositFormsCardSaid : Prop := Claim7.holds Tryz.pinned (.plain (OpenSpec.ofChange positFormsSpec)) positFormsCard

/-- THE TIED CARD OF 'scholiumlaw18.PositWrong'. -/
def positWrongCard : Claim7 := { stood := { row := positWrongRow, standIns := [], harness := (true, "7b7b399d02c14a3784847d7d5c12bbcf87eb567663d3f82a80a8b3cbf6ec73fa"), looks := true }, kinds := [], alts := [], laidByText := true, laidKinds := [.data, .data, .data, .data, .sentinel, .sentinel, .pinned], laidTests := true, laidLooks := .later }
def PositWrongCardSaid : Prop := Claim7.holds Tryz.pinned (.plain (OpenSpec.ofChange positWrongSpec)) positWrongCard

/-- THE TIED CARD OF 'scholiumlaw18.PositLifts'. -/
def positLiftsCard : Claim7 := { stood := { row := positLiftsRow, standIns := [], harness := (true, "7b7b399d02c14a3784847d7d5c12bbcf87eb567663d3f82a80a8b3cbf6ec73fa"), looks := true }, kinds := [], alts := [], laidByText := true, laidKinds := [.data, .data, .data, .data, .sentinel, .sentinel, .pinned], laidTests := true, laidLooks := .later }
def PositLiftsCardSaid : Prop := Claim7.holds Tryz.pinned (.plain (OpenSpec.ofChange positLiftsSpec)) positLiftsCard

/-- THE SECOND FORM's CARD OF 'scholiumlaw17.TeleBack'. -/
def teleBackUptoCard : Claim7 := { stood := { row := teleBackUptoRow, standIns := [], harness := (true, "7b7b399d02c14a3784847d7d5c12bbcf87eb567663d3f82a80a8b3cbf6ec73fa"), looks := true }, kinds := [], alts := [], laidByText := true, laidKinds := [.data, .data, .data, .data, .sentinel, .sentinel, .pinned], laidTests := true, laidLooks := .later }
def TeleBackUptoCardSaid : Prop := Claim7.holds Tryz.pinned (.plain (OpenSpec.upto teleBackSpec)) teleBackUptoCard

/-- THE SECOND FORM's CARD OF 'scholiumlaw18.PositAnswers'. -/
def positAnswersUptoCard : Claim7 := { stood := { row := positAnswersUptoRow, standIns := [], harness := (true, "7b7b399d02c14a3784847d7d5c12bbcf87eb567663d3f82a80a8b3cbf6ec73fa"), looks := true }, kinds := [], alts := [], laidByText := true, laidKinds := [.data, .data, .data, .data, .sentinel, .sentinel, .pinned], laidTests := true, laidLooks := .later }
def PositAnswersUptoCardSaid : Prop := Claim7.holds Tryz.pinned (.plain (OpenSpec.upto positAnswersSpec)) positAnswersUptoCard

/-- THE SECOND FORM's CARD OF 'scholiumlaw18.PositForms'. -/
def positFormsUptoCard : Claim7 := { stood := { row := positFormsUptoRow, standIns := [], harness := (true, "7b7b399d02c14a3784847d7d5c12bbcf87eb567663d3f82a80a8b3cbf6ec73fa"), looks := true }, kinds := [], alts := [], laidByText := true, laidKinds := [.data, .data, .data, .data, .sentinel, .sentinel, .pinned], laidTests := true, laidLooks := .later }
def PositFormsUptoCardSaid : Prop := Claim7.holds Tryz.pinned (.plain (OpenSpec.upto positFormsSpec)) positFormsUptoCard

/-- THE SECOND FORM's CARD OF 'scholiumlaw18.PositWrong'. -/
def positWrongUptoCard : Claim7 := { stood := { row := positWrongUptoRow, standIns := [], harness := (true, "7b7b399d02c14a3784847d7d5c12bbcf87eb567663d3f82a80a8b3cbf6ec73fa"), looks := true }, kinds := [], alts := [], laidByText := true, laidKinds := [.data, .data, .data, .data, .sentinel, .sentinel, .pinned], laidTests := true, laidLooks := .later }
def PositWrongUptoCardSaid : Prop := Claim7.holds Tryz.pinned (.plain (OpenSpec.upto positWrongSpec)) positWrongUptoCard

/-- THE SECOND FORM's CARD OF 'scholiumlaw18.PositLifts'. -/
def positLiftsUptoCard : Claim7 := { stood := { row := positLiftsUptoRow, standIns := [], harness := (true, "7b7b399d02c14a3784847d7d5c12bbcf87eb567663d3f82a80a8b3cbf6ec73fa"), looks := true }, kinds := [], alts := [], laidByText := true, laidKinds := [.data, .data, .data, .data, .sentinel, .sentinel, .pinned], laidTests := true, laidLooks := .later }
def PositLiftsUptoCardSaid : Prop := Claim7.holds Tryz.pinned (.plain (OpenSpec.upto positLiftsSpec)) positLiftsUptoCard
end Rows
end Go.Proofs.YtehhihdahalfeaaGreatDoor

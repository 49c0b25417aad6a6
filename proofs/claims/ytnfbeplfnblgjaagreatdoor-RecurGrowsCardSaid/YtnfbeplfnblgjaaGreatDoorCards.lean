/-
  DERIVED. GIVEN WITH THE SEED: THE CARDS: each row of YtnfbeplfnblgjaaGreatDoorRows.lean that lists a variable, with what it lists TIED to the program's text (the seventh form; the later family's looks); each row that meets fmt, with fmt's text TOLD by the authors' own Lean function (tested against real Go, not proved from fmt's source: count such statements apart). THE CARD IS WHAT COUNTS. Prove the row's statement (the work); the ties are given (YtnfbeplfnblgjaaGreatDoorTie.lean); close each card by the builder's one call (the guide's Derived/Test/ToyasCard.lean, 'card_holds'). Laid BY PROGRAM, IN A SANDBOX (cutbox-door.mjs). By AI agents, Wed Nov 11 2026. No macro, syntax, notation, axiom, sorry.
-/
import Derived.Test.YtnfbeplfnblgjaaGreatDoorRows
import GoSem.ClaimSeven
namespace Go.Proofs.YtnfbeplfnblgjaaGreatDoor
namespace Rows

/-- THE TIED CARD OF 'scholiumlaw19.RecurEntries'. -/
def recurEntriesCard : Claim7 := { stood := { row := recurEntriesRow, standIns := [], harness := (true, "c59fd739bd3dc36ad6d1ab195e28cefc7fd334f0a990ccab401d1e9e4086a801"), looks := true }, kinds := [], alts := [], laidByText := true, laidKinds := [.data, .data, .data, .data, .sentinel, .sentinel, .pinned], laidTests := true, laidLooks := .later }
def RecurEntriesCardSaid : Prop := Claim7.holds Tryz.pinned (.plain (OpenSpec.ofChange recurEntriesSpec)) recurEntriesCard

/-- THE TIED CARD OF 'scholiumlaw19.RecurGrows'. -/
def recurGrowsCard : Claim7 := { stood := { row := recurGrowsRow, standIns := [], harness := (true, "c59fd739bd3dc36ad6d1ab195e28cefc7fd334f0a990ccab401d1e9e4086a801"), looks := true }, kinds := [], alts := [], laidByText := true, laidKinds := [.data, .data, .data, .data, .sentinel, .sentinel, .pinned], laidTests := true, laidLooks := .later }
def RecurGrowsCardSaid : Prop := Claim7.holds Tryz.pinned (.plain (OpenSpec.ofChange recurGrowsSpec)) recurGrowsCard

/-- THE TIED CARD OF 'scholiumlaw19.RecurSteps'. -/
def recurStepsCard : Claim7 := { stood := { row := recurStepsRow, standIns := [], harness := (true, "c59fd739bd3dc36ad6d1ab195e28cefc7fd334f0a990ccab401d1e9e4086a801"), looks := true }, kinds := [], alts := [], laidByText := true, laidKinds := [.data, .data, .data, .data, .sentinel, .sentinel, .pinned], laidTests := true, laidLooks := .later }
def RecurStepsCardSaid : Prop := Claim7.holds Tryz.pinned (.plain (OpenSpec.ofChange recurStepsSpec)) recurStepsCard

/-- THE TIED CARD OF 'scholiumlaw19.RecurNames'. -/
def recurNamesCard : Claim7 := { stood := { row := recurNamesRow, standIns := [], harness := (true, "c59fd739bd3dc36ad6d1ab195e28cefc7fd334f0a990ccab401d1e9e4086a801"), looks := true }, kinds := [], alts := [], laidByText := true, laidKinds := [.data, .data, .data, .data, .sentinel, .sentinel, .pinned], laidTests := true, laidLooks := .later }
def RecurNamesCardSaid : Prop := Claim7.holds Tryz.pinned (.plain (OpenSpec.ofChange recurNamesSpec)) recurNamesCard

/-- THE SECOND FORM's CARD OF 'scholiumlaw19.RecurEntries'. -/
def recurEntriesUptoCard : Claim7 := { stood := { row := recurEntriesUptoRow, standIns := [], harness := (true, "c59fd739bd3dc36ad6d1ab195e28cefc7fd334f0a990ccab401d1e9e4086a801"), looks := true }, kinds := [], alts := [], laidByText := true, laidKinds := [.data, .data, .data, .data, .sentinel, .sentinel, .pinned], laidTests := true, laidLooks := .later }
def RecurEntriesUptoCardSaid : Prop := Claim7.holds Tryz.pinned (.plain (OpenSpec.upto recurEntriesSpec)) recurEntriesUptoCard

/-- THE SECOND FORM's CARD OF 'scholiumlaw19.RecurGrows'. -/
def recurGrowsUptoCard : Claim7 := { stood := { row := recurGrowsUptoRow, standIns := [], harness := (true, "c59fd739bd3dc36ad6d1ab195e28cefc7fd334f0a990ccab401d1e9e4086a801"), looks := true }, kinds := [], alts := [], laidByText := true, laidKinds := [.data, .data, .data, .data, .sentinel, .sentinel, .pinned], laidTests := true, laidLooks := .later }
def RecurGrowsUptoCardSaid : Prop := Claim7.holds Tryz.pinned (.plain (OpenSpec.upto recurGrowsSpec)) recurGrowsUptoCard

/-- THE SECOND FORM's CARD OF 'scholiumlaw19.RecurSteps'. -/
def recurStepsUptoCard : Claim7 := { stood := { row := recurStepsUptoRow, standIns := [], harness := (true, "c59fd739bd3dc36ad6d1ab195e28cefc7fd334f0a990ccab401d1e9e4086a801"), looks := true }, kinds := [], alts := [], laidByText := true, laidKinds := [.data, .data, .data, .data, .sentinel, .sentinel, .pinned], laidTests := true, laidLooks := .later }
def RecurStepsUptoCardSaid : Prop := Claim7.holds Tryz.pinned (.plain (OpenSpec.upto recurStepsSpec)) recurStepsUptoCard

/-- THE SECOND FORM's CARD OF 'scholiumlaw19.RecurNames'. -/
def recurNamesUptoCard : Claim7 := { stood := { row := recurNamesUptoRow, standIns := [], harness := (true, "c59fd739bd3dc36ad6d1ab195e28cefc7fd334f0a990ccab401d1e9e4086a801"), looks := true }, kinds := [], alts := [], laidByText := true, laidKinds := [.data, .data, .data, .data, .sentinel, .sentinel, .pinned], laidTests := true, laidLooks := .later }
def RecurNamesUptoCardSaid : Prop := Claim7.holds Tryz.pinned (.plain (OpenSpec.upto recurNamesSpec)) recurNamesUptoCard
end Rows
end Go.Proofs.YtnfbeplfnblgjaaGreatDoor

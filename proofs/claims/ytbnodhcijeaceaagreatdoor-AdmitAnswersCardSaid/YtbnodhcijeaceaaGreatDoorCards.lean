/-
  DERIVED. GIVEN WITH THE SEED: THE CARDS: each row of YtbnodhcijeaceaaGreatDoorRows.lean that lists a variable, with what it lists TIED to the program's text (the seventh form; the later family's looks); each row that meets fmt, with fmt's text TOLD by the authors' own Lean function (tested against real Go, not proved from fmt's source: count such statements apart). THE CARD IS WHAT COUNTS. Prove the row's statement (the work); the ties are given (YtbnodhcijeaceaaGreatDoorTie.lean); close each card by the builder's one call (the guide's Derived/Test/ToyasCard.lean, 'card_holds'). Laid BY PROGRAM, IN A SANDBOX (cutbox-door.mjs). By AI agents, Wed Nov 11 2026. No macro, syntax, notation, axiom, sorry.
-/
import Derived.Test.YtbnodhcijeaceaaGreatDoorRows
import GoSem.ClaimSeven
namespace Go.Proofs.YtbnodhcijeaceaaGreatDoor
namespace Rows

/-- THE TIED CARD OF 'scholiumlaw14.ConvFuel'. -/
def convFuelCard : Claim7 := { stood := { row := convFuelRow, standIns := [], harness := (true, "873e72a25e04a07308bbd18f70a745a76f219266b979719002c632df6bbff8df"), looks := true }, kinds := [], alts := [], laidByText := true, laidKinds := [.data, .data, .data, .data, .sentinel, .sentinel, .pinned], laidTests := true, laidLooks := .later }
def ConvFuelCardSaid : Prop := Claim7.holds Tryz.pinned (.plain (OpenSpec.ofChange convFuelSpec)) convFuelCard

/-- THE TIED CARD OF 'scholiumlaw15.InferFuel'. -/
def inferFuelCard : Claim7 := { stood := { row := inferFuelRow, standIns := [], harness := (true, "873e72a25e04a07308bbd18f70a745a76f219266b979719002c632df6bbff8df"), looks := true }, kinds := [], alts := [], laidByText := true, laidKinds := [.data, .data, .data, .data, .sentinel, .sentinel, .pinned], laidTests := true, laidLooks := .later }
def InferFuelCardSaid : Prop := Claim7.holds Tryz.pinned (.plain (OpenSpec.ofChange inferFuelSpec)) inferFuelCard

/-- THE TIED CARD OF 'scholiumlaw16.AdmitFuel'. -/
def admitFuelCard : Claim7 := { stood := { row := admitFuelRow, standIns := [], harness := (true, "873e72a25e04a07308bbd18f70a745a76f219266b979719002c632df6bbff8df"), looks := true }, kinds := [], alts := [], laidByText := true, laidKinds := [.data, .data, .data, .data, .sentinel, .sentinel, .pinned], laidTests := true, laidLooks := .later }
def AdmitFuelCardSaid : Prop := Claim7.holds Tryz.pinned (.plain (OpenSpec.ofChange admitFuelSpec)) admitFuelCard

/-- THE TIED CARD OF 'scholiumlaw16.AdmitNames'. -/
def admitNamesCard : Claim7 := { stood := { row := admitNamesRow, standIns := [], harness := (true, "873e72a25e04a07308bbd18f70a745a76f219266b979719002c632df6bbff8df"), looks := true }, kinds := [], alts := [], laidByText := true, laidKinds := [.data, .data, .data, .data, .sentinel, .sentinel, .pinned], laidTests := true, laidLooks := .later }
def AdmitNamesCardSaid : Prop := Claim7.holds Tryz.pinned (.plain (OpenSpec.ofChange admitNamesSpec)) admitNamesCard

/-- THE TIED CARD OF 'scholiumlaw16.AdmitAnswers'. -/
def admitAnswersCard : Claim7 := { stood := { row := admitAnswersRow, standIns := [], harness := (true, "873e72a25e04a07308bbd18f70a745a76f219266b979719002c632df6bbff8df"), looks := true }, kinds := [], alts := [], laidByText := true, laidKinds := [.data, .data, .data, .data, .sentinel, .sentinel, .pinned], laidTests := true, laidLooks := .later }
def AdmitAnswersCardSaid : Prop := Claim7.holds Tryz.pinned (.plain (OpenSpec.ofChange admitAnswersSpec)) admitAnswersCard

/-- THE TIED CARD OF 'scholiumlaw16.AdmitAll'. -/
def admitAllCard : Claim7 := { stood := { row := admitAllRow, standIns := [], harness := (true, "873e72a25e04a07308bbd18f70a745a76f219266b979719002c632df6bbff8df"), looks := true }, kinds := [], alts := [], laidByText := true, laidKinds := [.data, .data, .data, .data, .sentinel, .sentinel, .pinned], laidTests := true, laidLooks := .later }
def AdmitAllCardSaid : Prop := Claim7.holds Tryz.pinned (.plain (OpenSpec.ofChange admitAllSpec)) admitAllCard

/-- THE SECOND FORM's CARD OF 'scholiumlaw14.ConvFuel'. -/
def convFuelUptoCard : Claim7 := { stood := { row := convFuelUptoRow, standIns := [], harness := (true, "873e72a25e04a07308bbd18f70a745a76f219266b979719002c632df6bbff8df"), looks := true }, kinds := [], alts := [], laidByText := true, laidKinds := [.data, .data, .data, .data, .sentinel, .sentinel, .pinned], laidTests := true, laidLooks := .later }
def ConvFuelUptoCardSaid : Prop := Claim7.holds Tryz.pinned (.plain (OpenSpec.upto convFuelSpec)) convFuelUptoCard

/-- THE SECOND FORM's CARD OF 'scholiumlaw15.InferFuel'. -/
def inferFuelUptoCard : Claim7 := { stood := { row := inferFuelUptoRow, standIns := [], harness := (true, "873e72a25e04a07308bbd18f70a745a76f219266b979719002c632df6bbff8df"), looks := true }, kinds := [], alts := [], laidByText := true, laidKinds := [.data, .data, .data, .data, .sentinel, .sentinel, .pinned], laidTests := true, laidLooks := .later }
def InferFuelUptoCardSaid : Prop := Claim7.holds Tryz.pinned (.plain (OpenSpec.upto inferFuelSpec)) inferFuelUptoCard

/-- THE SECOND FORM's CARD OF 'scholiumlaw16.AdmitFuel'. -/
def admitFuelUptoCard : Claim7 := { stood := { row := admitFuelUptoRow, standIns := [], harness := (true, "873e72a25e04a07308bbd18f70a745a76f219266b979719002c632df6bbff8df"), looks := true }, kinds := [], alts := [], laidByText := true, laidKinds := [.data, .data, .data, .data, .sentinel, .sentinel, .pinned], laidTests := true, laidLooks := .later }
def AdmitFuelUptoCardSaid : Prop := Claim7.holds Tryz.pinned (.plain (OpenSpec.upto admitFuelSpec)) admitFuelUptoCard

/-- THE SECOND FORM's CARD OF 'scholiumlaw16.AdmitNames'. -/
def admitNamesUptoCard : Claim7 := { stood := { row := admitNamesUptoRow, standIns := [], harness := (true, "873e72a25e04a07308bbd18f70a745a76f219266b979719002c632df6bbff8df"), looks := true }, kinds := [], alts := [], laidByText := true, laidKinds := [.data, .data, .data, .data, .sentinel, .sentinel, .pinned], laidTests := true, laidLooks := .later }
def AdmitNamesUptoCardSaid : Prop := Claim7.holds Tryz.pinned (.plain (OpenSpec.upto admitNamesSpec)) admitNamesUptoCard

/-- THE SECOND FORM's CARD OF 'scholiumlaw16.AdmitAnswers'. -/
def admitAnswersUptoCard : Claim7 := { stood := { row := admitAnswersUptoRow, standIns := [], harness := (true, "873e72a25e04a07308bbd18f70a745a76f219266b979719002c632df6bbff8df"), looks := true }, kinds := [], alts := [], laidByText := true, laidKinds := [.data, .data, .data, .data, .sentinel, .sentinel, .pinned], laidTests := true, laidLooks := .later }
def AdmitAnswersUptoCardSaid : Prop := Claim7.holds Tryz.pinned (.plain (OpenSpec.upto admitAnswersSpec)) admitAnswersUptoCard

/-- THE SECOND FORM's CARD OF 'scholiumlaw16.AdmitAll'. -/
def admitAllUptoCard : Claim7 := { stood := { row := admitAllUptoRow, standIns := [], harness := (true, "873e72a25e04a07308bbd18f70a745a76f219266b979719002c632df6bbff8df"), looks := true }, kinds := [], alts := [], laidByText := true, laidKinds := [.data, .data, .data, .data, .sentinel, .sentinel, .pinned], laidTests := true, laidLooks := .later }
def AdmitAllUptoCardSaid : Prop := Claim7.holds Tryz.pinned (.plain (OpenSpec.upto admitAllSpec)) admitAllUptoCard
end Rows
end Go.Proofs.YtbnodhcijeaceaaGreatDoor

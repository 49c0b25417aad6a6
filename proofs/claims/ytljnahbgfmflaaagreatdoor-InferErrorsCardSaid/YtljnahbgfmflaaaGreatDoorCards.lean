/-
  DERIVED. GIVEN WITH THE SEED: THE CARDS: each row of YtljnahbgfmflaaaGreatDoorRows.lean that lists a variable, with what it lists TIED to the program's text (the seventh form; the later family's looks); each row that meets fmt, with fmt's text TOLD by the authors' own Lean function (tested against real Go, not proved from fmt's source: count such statements apart). THE CARD IS WHAT COUNTS. Prove the row's statement (the work); the ties are given (YtljnahbgfmflaaaGreatDoorTie.lean); close each card by the builder's one call (the guide's Derived/Test/ToyasCard.lean, 'card_holds'). Laid BY PROGRAM, IN A SANDBOX (cutbox-door.mjs). By AI agents, Wed Nov 11 2026. No macro, syntax, notation, axiom, sorry.
-/
import Derived.Test.YtljnahbgfmflaaaGreatDoorRows
import GoSem.ClaimSeven
namespace Go.Proofs.YtljnahbgfmflaaaGreatDoor
namespace Rows

/-- THE TIED CARD OF 'scholiumlaw14.ConvFuel'. -/
def convFuelCard : Claim7 := { stood := { row := convFuelRow, standIns := [], harness := (true, "d16d114fcb122b7b912f67af6262ca439064091dc54da650c9b74bbfba21db5b"), looks := true }, kinds := [], alts := [], laidByText := true, laidKinds := [.data, .data, .data, .data, .sentinel, .sentinel, .pinned], laidTests := true, laidLooks := .later }
def ConvFuelCardSaid : Prop := Claim7.holds Tryz.pinned (.plain (OpenSpec.ofChange convFuelSpec)) convFuelCard

/-- THE TIED CARD OF 'scholiumlaw14.ConvIMax'. -/
def convIMaxCard : Claim7 := { stood := { row := convIMaxRow, standIns := [], harness := (true, "d16d114fcb122b7b912f67af6262ca439064091dc54da650c9b74bbfba21db5b"), looks := true }, kinds := [], alts := [], laidByText := true, laidKinds := [.data, .data, .data, .data, .sentinel, .sentinel, .pinned], laidTests := true, laidLooks := .later }
def ConvIMaxCardSaid : Prop := Claim7.holds Tryz.pinned (.plain (OpenSpec.ofChange convIMaxSpec)) convIMaxCard

/-- THE TIED CARD OF 'scholiumlaw15.InferErrors'. -/
def inferErrorsCard : Claim7 := { stood := { row := inferErrorsRow, standIns := [], harness := (true, "d16d114fcb122b7b912f67af6262ca439064091dc54da650c9b74bbfba21db5b"), looks := true }, kinds := [], alts := [], laidByText := true, laidKinds := [.data, .data, .data, .data, .sentinel, .sentinel, .pinned], laidTests := true, laidLooks := .later }
def InferErrorsCardSaid : Prop := Claim7.holds Tryz.pinned (.plain (OpenSpec.ofChange inferErrorsSpec)) inferErrorsCard

/-- THE TIED CARD OF 'scholiumlaw15.InferFuel'. -/
def inferFuelCard : Claim7 := { stood := { row := inferFuelRow, standIns := [], harness := (true, "d16d114fcb122b7b912f67af6262ca439064091dc54da650c9b74bbfba21db5b"), looks := true }, kinds := [], alts := [], laidByText := true, laidKinds := [.data, .data, .data, .data, .sentinel, .sentinel, .pinned], laidTests := true, laidLooks := .later }
def InferFuelCardSaid : Prop := Claim7.holds Tryz.pinned (.plain (OpenSpec.ofChange inferFuelSpec)) inferFuelCard

/-- THE SECOND FORM's CARD OF 'scholiumlaw14.ConvFuel'. -/
def convFuelUptoCard : Claim7 := { stood := { row := convFuelUptoRow, standIns := [], harness := (true, "d16d114fcb122b7b912f67af6262ca439064091dc54da650c9b74bbfba21db5b"), looks := true }, kinds := [], alts := [], laidByText := true, laidKinds := [.data, .data, .data, .data, .sentinel, .sentinel, .pinned], laidTests := true, laidLooks := .later }
def ConvFuelUptoCardSaid : Prop := Claim7.holds Tryz.pinned (.plain (OpenSpec.upto convFuelSpec)) convFuelUptoCard

/-- THE SECOND FORM's CARD OF 'scholiumlaw14.ConvIMax'. -/
def convIMaxUptoCard : Claim7 := { stood := { row := convIMaxUptoRow, standIns := [], harness := (true, "d16d114fcb122b7b912f67af6262ca439064091dc54da650c9b74bbfba21db5b"), looks := true }, kinds := [], alts := [], laidByText := true, laidKinds := [.data, .data, .data, .data, .sentinel, .sentinel, .pinned], laidTests := true, laidLooks := .later }
def ConvIMaxUptoCardSaid : Prop := Claim7.holds Tryz.pinned (.plain (OpenSpec.upto convIMaxSpec)) convIMaxUptoCard

/-- THE SECOND FORM's CARD OF 'scholiumlaw15.InferErrors'. -/
def inferErrorsUptoCard : Claim7 := { stood := { row := inferErrorsUptoRow, standIns := [], harness := (true, "d16d114fcb122b7b912f67af6262ca439064091dc54da650c9b74bbfba21db5b"), looks := true }, kinds := [], alts := [], laidByText := true, laidKinds := [.data, .data, .data, .data, .sentinel, .sentinel, .pinned], laidTests := true, laidLooks := .later }
def InferErrorsUptoCardSaid : Prop := Claim7.holds Tryz.pinned (.plain (OpenSpec.upto inferErrorsSpec)) inferErrorsUptoCard

/-- THE SECOND FORM's CARD OF 'scholiumlaw15.InferFuel'. -/
def inferFuelUptoCard : Claim7 := { stood := { row := inferFuelUptoRow, standIns := [], harness := (true, "d16d114fcb122b7b912f67af6262ca439064091dc54da650c9b74bbfba21db5b"), looks := true }, kinds := [], alts := [], laidByText := true, laidKinds := [.data, .data, .data, .data, .sentinel, .sentinel, .pinned], laidTests := true, laidLooks := .later }
def InferFuelUptoCardSaid : Prop := Claim7.holds Tryz.pinned (.plain (OpenSpec.upto inferFuelSpec)) inferFuelUptoCard
end Rows
end Go.Proofs.YtljnahbgfmflaaaGreatDoor

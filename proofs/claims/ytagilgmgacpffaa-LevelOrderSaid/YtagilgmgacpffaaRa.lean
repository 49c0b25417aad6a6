/-
  What the rows of layer 3 share: arguments that are levels or slices of numbers, out of their readings.
-/
import Derived.Test.YtagilgmgacpffaaRows
import Derived.Test.YtagilgmgacpffaaRw
import Derived.JoinedOf
namespace Go.Proofs.Ytagilgmgacpffaa
open Go Go.Gw Go.ChangeShapes Go.WideShapes Go.ChangeAt Go.RowKit

theorem rowOwn : ownKnob Try.prog.godebug = none := by kernel_rfl
theorem rowLaid : laidOutB Try.prog = true := by kernel_rfl
theorem readInt : Try.prog.readableRec 3 = true ∧ 3 < Try.prog.types.size := ⟨by kernel_rfl, of_decide_eq_true (by kernel_rfl)⟩
theorem readInts : Try.prog.readableRec 25 = true ∧ 25 < Try.prog.types.size := ⟨by kernel_rfl, of_decide_eq_true (by kernel_rfl)⟩
theorem readLevel : Try.prog.readableRec 24 = true ∧ 24 < Try.prog.types.size := ⟨by kernel_rfl, of_decide_eq_true (by kernel_rfl)⟩
theorem readLevels : Try.prog.readableRec 22 = true ∧ 22 < Try.prog.types.size := ⟨by kernel_rfl, of_decide_eq_true (by kernel_rfl)⟩

section
variable {H : Type} {enc : TypeId × Value → H} {W : World} {r : Reach} {b0 : Nat} {v : Value} {d : DataW H} {ps : List MemPlace}

theorem level_trod (fuel : Nat) (cs : List Value) (x : DataW H × List MemPlace) (h : DataW.trod enc Try.prog W 0 (fun _ => true) true fuel 24 cs = some x) (hw : ∀ n ∈ x.1.weights Try.prog 24, n ≤ reachBytes) : ∃ l, LvV (memOf W) l cs :=
  lv_of Try.underlying24 Try.underlying22 Try.underlying3 (by kernel_rfl) (by kernel_rfl) (by kernel_rfl) (by kernel_rfl) rfl rfl rfl rfl rfl rfl fuel cs x h hw

theorem level_arg (hv : Value.okWide Try.prog W r b0 24 v) (h : DataW.Trod enc Try.prog W 0 (fun _ => true) true 24 v d ps) (hw : ∀ n ∈ d.weights Try.prog 24, n ≤ reachBytes) :
    ∃ l cs, v = .agg cs.toArray ∧ LvV (memOf W) l cs := by
  obtain ⟨cs, rfl, hsz⟩ := okWide_struct Try.underlying24 hv
  obtain ⟨fuel, hf⟩ := h
  obtain ⟨l, hl⟩ := level_trod fuel _ _ hf hw
  exact ⟨l, cs.toList, by simp, by simpa [Value.cells] using hl⟩

theorem ints_arg (hv : Value.okWide Try.prog W r b0 25 v) (h : DataW.Trod enc Try.prog W 0 (fun _ => true) true 25 v d ps) (hw : ∀ n ∈ d.weights Try.prog 25, n ≤ reachBytes) :
    ∃ vs, IntsV (memOf W) vs v := by
  obtain ⟨sa, sl, sc, rfl⟩ := okWide_slice Try.underlying25 hv
  obtain ⟨fuel, hf⟩ := h
  obtain ⟨vs, sv, hsv, hints⟩ := ints_of Try.underlying25 Try.underlying3 (by kernel_rfl) (by kernel_rfl) hf hw
  obtain rfl : Value.slice sa sl sc = sv := by simpa [Value.cells] using hsv
  exact ⟨vs, hints⟩
end

end Go.Proofs.Ytagilgmgacpffaa

/-
  What the rows of layer 3 share: arguments that are levels or slices of numbers, out of their readings.
-/
import Derived.Test.YtagilgmgacpffaaRows
import Derived.Test.YtagilgmgacpffaaRw
import Derived.JoinedOf
namespace Go.Proofs.Ytagilgmgacpffaa
open Go Go.Gw Go.ChangeShapes Go.WideShapes Go.ChangeAt Go.RowKit

theorem rowOwn : ownKnob Try.prog.godebug = none := by kernel_rfl
theorem rowLaid : laidOutB Try.prog = true := by kernel_rfl
theorem readInt : Try.prog.readableRec 3 = true ∧ 3 < Try.prog.types.size := ⟨by kernel_rfl, of_decide_eq_true (by kernel_rfl)⟩
theorem readInts : Try.prog.readableRec 25 = true ∧ 25 < Try.prog.types.size := ⟨by kernel_rfl, of_decide_eq_true (by kernel_rfl)⟩
theorem readLevel : Try.prog.readableRec 24 = true ∧ 24 < Try.prog.types.size := ⟨by kernel_rfl, of_decide_eq_true (by kernel_rfl)⟩
theorem readLevels : Try.prog.readableRec 22 = true ∧ 22 < Try.prog.types.size := ⟨by kernel_rfl, of_decide_eq_true (by kernel_rfl)⟩

section
variable {H : Type} {enc : TypeId × Value → H} {W : World} {r : Reach} {b0 : Nat} {v : Value} {d : DataW H} {ps : List MemPlace}

theorem level_trod (fuel : Nat) (cs : List Value) (x : DataW H × List MemPlace) (h : DataW.trod enc Try.prog W 0 (fun _ => true) true fuel 24 cs = some x) (hw : ∀ n ∈ x.1.weights Try.prog 24, n ≤ reachBytes) : ∃ l, LvV (memOf W) l cs :=
  lv_of Try.underlying24 Try.underlying22 Try.underlying3 (by kernel_rfl) (by kernel_rfl) (by kernel_rfl) (by kernel_rfl) rfl rfl rfl rfl rfl rfl fuel cs x h hw

theorem level_arg (hv : Value.okWide Try.prog W r b0 24 v) (h : DataW.Trod enc Try.prog W 0 (fun _ => true) true 24 v d ps) (hw : ∀ n ∈ d.weights Try.prog 24, n ≤ reachBytes) :
    ∃ l cs, v = .agg cs.toArray ∧ LvV (memOf W) l cs := by
  obtain ⟨cs, rfl, hsz⟩ := okWide_struct Try.underlying24 hv
  obtain ⟨fuel, hf⟩ := h
  obtain ⟨l, hl⟩ := level_trod fuel _ _ hf hw
  exact ⟨l, cs.toList, by simp, by simpa [Value.cells] using hl⟩

theorem ints_arg (hv : Value.okWide Try.prog W r b0 25 v) (h : DataW.Trod enc Try.prog W 0 (fun _ => true) true 25 v d ps) (hw : ∀ n ∈ d.weights Try.prog 25, n ≤ reachBytes) :
    ∃ vs, IntsV (memOf W) vs v := by
  obtain ⟨sa, sl, sc, rfl⟩ := okWide_slice Try.underlying25 hv
  obtain ⟨fuel, hf⟩ := h
  obtain ⟨vs, sv, hsv, hints⟩ := ints_of Try.underlying25 Try.underlying3 (by kernel_rfl) (by kernel_rfl) hf hw
  obtain rfl : Value.slice sa sl sc = sv := by simpa [Value.cells] using hsv
  exact ⟨vs, hints⟩

theorem lvs_of {P : Program} {T S : TypeId} (hS : P.underlying S = some (.slice T)) (hc : P.cellsOf T = 3) (hby : P.bytesOf T = 40)
    (h1 : ∀ (fuel : Nat) (cs : List Value) (x : DataW H × List MemPlace), DataW.trod enc P W 0 (fun _ => true) true fuel T cs = some x → (∀ n ∈ x.1.weights P T, n ≤ reachBytes) → ∃ l, LvV (memOf W) l cs)
    {fuel : Nat} {cs : List Value} {x : DataW H × List MemPlace} (h : DataW.trod enc P W 0 (fun _ => true) true fuel S cs = some x) (hw : ∀ n ∈ x.1.weights P S, n ≤ reachBytes) : ∃ ls sv, cs = [sv] ∧ LvsS (memOf W) ls sv := by
  rcases DataW.trod_slice hS h with ⟨hn, _⟩ | ⟨a, len, cap, elems, rest, n', rfl, hcs, rfl, _, hl, _, hel, hget, hsp, _⟩
  · subst hn
    exact ⟨[], _, rfl, none, 0, rfl, by simp, by simp, .inl rfl⟩
  · subst hcs
    have hb := hw ((elems.length + rest.length) * 40) (by simp [DataW.weights, hS, hby])
    unfold reachBytes at hb
    have hone : ∀ i, i < len → ∃ l, (∃ cs, RdN (memOf W) a.block (a.off + i * 3) cs ∧ LvV (memOf W) l cs) ∧ (i = 0 → a.spot = none) := fun i hi => by
      have h2 := hget i hi
      rw [hc, List.getElem?_eq_getElem (by omega)] at h2
      obtain ⟨cs', h3, h4⟩ := Option.bind_eq_some_iff.1 h2
      obtain ⟨l, hlv⟩ := h1 n' cs' _ h4 (fun u hu => hw u (by
        simp only [DataW.weights, hS, List.mem_cons, List.mem_append]
        exact .inr (.inl (weightsAll_mem (List.mem_map.2 ⟨_, List.getElem_mem (by omega), rfl⟩) hu))))
      obtain ⟨_, hl3, hcell⟩ := World.cells?_some h3
      have hrd : ∀ j, (hj : j < 3) → Rd (memOf W) a.block (a.off + i * 3 + j) (cs'[j]'(by omega)) ∧ (j = 0 → (a.add (i * 3)).spot = none) := fun j hj => by
        have h5 := hcell j hj
        rw [List.getElem?_eq_getElem (by omega)] at h5
        have h6 := rd_cell (a := a.add (i * 3)) (i := j) h5
        rw [add_block, add_off] at h6
        exact h6
      refine ⟨l, ⟨cs', fun j v hj => ?_, hlv⟩, fun hi0 => ?_⟩
      · obtain ⟨hjl, hv⟩ := List.getElem?_eq_some_iff.1 hj
        have := (hrd j (by omega)).1
        rwa [hv] at this
      · have := (hrd 0 (by omega)).2 rfl
        subst hi0
        simpa [Addr.add] using this
    obtain ⟨ls, hls, hat⟩ := list_of hone
    refine ⟨ls, _, rfl, some a, cap, by rw [hls], by omega, by omega, ?_⟩
    by_cases h0 : ls = []
    · exact .inl h0
    · right
      have hpos : 0 < ls.length := List.length_pos_iff.2 h0
      have hspot := (hat 0 _ (List.getElem?_eq_getElem hpos)).2 rfl
      obtain ⟨b, off, spot⟩ := a
      obtain rfl : spot = none := hspot
      exact ⟨b, off, rfl, LvsV.of fun i l hl => (hat i l hl).1⟩

theorem levels_arg (hv : Value.okWide Try.prog W r b0 22 v) (h : DataW.Trod enc Try.prog W 0 (fun _ => true) true 22 v d ps) (hw : ∀ n ∈ d.weights Try.prog 22, n ≤ reachBytes) :
    ∃ ls, LvsS (memOf W) ls v := by
  obtain ⟨sa, sl, sc, rfl⟩ := okWide_slice Try.underlying22 hv
  obtain ⟨fuel, hf⟩ := h
  obtain ⟨ls, sv, hsv, hl⟩ := lvs_of Try.underlying22 (by kernel_rfl) (by kernel_rfl) level_trod hf hw
  obtain rfl : Value.slice sa sl sc = sv := by simpa [Value.cells] using hsv
  exact ⟨ls, hl⟩

theorem int_arg (hv : Value.okWide Try.prog W r b0 3 v) (h : DataW.Trod enc Try.prog W 0 (fun _ => true) true 3 v d ps) : ∃ n, v = .int .i64 n ∧ i64 n := by
  obtain ⟨a0, rfl, rfl, rfl, w0⟩ := open_int Try.underlying3 hv h
  refine ⟨a0, rfl, ?_⟩
  simp [Lit.wf, IntKind.min, IntKind.max, IntKind.signed, IntKind.bits] at w0
  unfold i64
  omega
end

end Go.Proofs.Ytagilgmgacpffaa

/-
  From the plain machine to rows: all that lies in memory is known, values of the plain machine out of readings. No statement of the seat.
-/
import Derived.Test.YtodfpilpdkdapaaGreatDoorPe
import Derived.Test.YtodfpilpdkdapaaGreatDoorRw
import Derived.Lib.LaidTab
namespace Go.Proofs.YtodfpilpdkdapaaGreatDoor
open Go Go.Am

def memB (W : World) : Hb.Mem := fun b o => match W.heap[b]? with
  | some (.cells c _ _) => c[o]?
  | _ => none
theorem memB_rd {W : World} {b o : Nat} {v : Value} (h : Gw.Rd (Gw.memOf W) b o v) : memB W b o = some v := by
  obtain ⟨c, T, fr, h1, h2⟩ := h
  unfold Gw.memOf at h1
  unfold memB
  rw [h1]
  exact h2
theorem memB_sub {W : World} {b o : Nat} {v : Value} (h : memB W b o = some v) : ∃ c T fr, W.heap[b]? = some (.cells c T fr) ∧ c[o]? = some v := by
  unfold memB at h
  split at h
  · rename_i c T fr e
    exact ⟨c, T, fr, e, h⟩
  · cases h
theorem goodB {W : World} (hb : ∀ b cs, Hb.base b = some cs → ∃ T fr, W.heap[b]? = some (.cells cs T fr)) : Hb.Good ⟨W, memB W, Hb.feetOf []⟩ W (memB W) [] :=
  ⟨rfl, rfl, rfl, Nat.le_refl _, fun _ _ _ => rfl, fun b o v h => memB_sub h, Hb.Mem.le.refl _, fun _ _ _ h => .inl h, by simp, by simp, .nil, fun b cs h => ⟨hb b cs h, by simp⟩⟩

/-- a call, by what the plain machine finds -/
theorem calls_of_pf {C : Cfg} (hC : ∀ n, EvOk C (ev C n)) {f : FuncId} {args rs : List PV} {W : World} {vs : List Value} (h : Pf C f args rs) (hb : ∀ b cs, Hb.base b = some cs → ∃ T fr, W.heap[b]? = some (.cells cs T fr)) (hr : Rl (memB W) noPh args vs) :
    Calls C.P f vs.toArray W fun e W' => ∃ m' φ' us, e = .returned (Gw.tup us) ∧ Rl m' φ' rs us ∧ RowKit.Below W.heap.size W W' := by
  obtain ⟨r, st', rfl, N, hN⟩ := h
  have hs : Sit ⟨W, memB W, Hb.feetOf []⟩ (memB W) noPh [] [] W := ⟨goodB hb, rfl, fun _ _ => rfl⟩
  refine ((hC N).call f args [] _ st' (hN N (Nat.le_refl N)) W (memB W) noPh [] vs hs hr).mono ?_
  rintro e W' ⟨m', φ', μ', _, hs', us, rfl, hus⟩
  refine ⟨m', φ', us, rfl, hus, Good.below hs'.good (fun b ⟨r, hr, _⟩ => by cases hr)⟩

theorem LvsP.of : ∀ {zs : List (Gw.Lv × List PV)}, (∀ (i : Nat) (z : Gw.Lv × List PV), zs[i]? = some z → LvP z.1 (.ag z.2)) → LvsP (zs.map (·.1)) (zs.map fun z => .ag z.2)
  | [], _ => by simp only [List.map_nil, LvsP]
  | z :: r, h => by
    simp only [List.map_cons, LvsP]
    exact ⟨_, _, rfl, h 0 z rfl, LvsP.of fun i z' hz => h (i + 1) z' (by simpa using hz)⟩

section
open Go.Gw Go.ChangeShapes Go.WideShapes Go.ChangeAt Go.RowKit
variable {H : Type} {enc : TypeId × Value → H} {P : Program} {W : World}

/-- a level out of its reading -/
theorem lvp_of {T S I : TypeId} {f0 f1 f2 : Field} (hT : P.underlying T = some (.struct #[f0, f1, f2])) (hS : P.underlying S = some (.slice T)) (hI : P.underlying I = some (.int .i64)) (hc : P.cellsOf T = 3) (hcS : P.cellsOf S = 1) (hcI : P.cellsOf I = 1) (hby : P.bytesOf T = 40)
    (e0 : f0.type = I) (o0 : f0.offset = 0) (e1 : f1.type = I) (o1 : f1.offset = 1) (e2 : f2.type = S) (o2 : f2.offset = 2) :
    ∀ (fuel : Nat) (cs : List Value) (x : DataW H × List MemPlace), DataW.trod enc P W 0 (fun _ => true) true fuel T cs = some x → (∀ n ∈ x.1.weights P T, n ≤ reachBytes) → ∃ l ps, LvP l (.ag ps) ∧ Rl (memB W) noPh ps cs ∧ ps.all cell = true ∧ cs.length = 3 := by
  intro fuel
  induction fuel using Nat.strongRecOn with
  | _ fuel ih =>
    intro cs x h hw
    obtain ⟨xs, n, rfl, rfl, hlen, hxs, hf⟩ := DataW.trod_struct hT h
    rw [hc] at hlen
    obtain ⟨c0, c1, c2, rfl⟩ : ∃ c0 c1 c2, cs = [c0, c1, c2] := by
      match cs, hlen with
      | [c0, c1, c2], _ => exact ⟨c0, c1, c2, rfl⟩
    obtain ⟨y0, y1, y2, rfl⟩ : ∃ y0 y1 y2, xs = [y0, y1, y2] := by
      match xs, hxs with
      | [y0, y1, y2], _ => exact ⟨y0, y1, y2, rfl⟩
    have g0 := hf 0 f0 rfl
    have g1 := hf 1 f1 rfl
    have g2 := hf 2 f2 rfl
    rw [e0, o0, hcI] at g0
    rw [e1, o1, hcI] at g1
    rw [e2, o2, hcS] at g2
    replace g0 : DataW.trod enc P W 0 (fun _ => true) true n I [c0] = some y0 := g0
    replace g1 : DataW.trod enc P W 0 (fun _ => true) true n I [c1] = some y1 := g1
    replace g2 : DataW.trod enc P W 0 (fun _ => true) true n S [c2] = some y2 := g2
    obtain ⟨k, hk, _, wk⟩ := DataW.trod_int hI g0
    obtain ⟨q, hq, _, wq⟩ := DataW.trod_int hI g1
    cases hk
    cases hq
    have hw2 : ∀ n ∈ y2.1.weights P S, n ≤ reachBytes := fun u hu => hw u (by
      simp only [DataW.weights, hT, List.map_cons, List.map_nil]
      refine DataW.weights_mem_each (j := 2) (t := S) (d := y2.1) ?_ rfl u hu
      simp [e2])
    rcases DataW.trod_slice hS g2 with ⟨hn, _⟩ | ⟨a, len, cap, elems, rest, n', rfl, hcs, rfl, _, hl, hmax, hel, hget, hsp, _⟩
    · cases hn
      refine ⟨.mk k q [], [iv k, iv q, .sl false 3 []], ?_, .cons (.sc rfl) (.cons (.sc rfl) (.cons ?_ .nil)), rfl, rfl⟩
      · simp only [LvP, LvsP]
        exact ⟨_, _, _, rfl, .inl rfl, rfl, by simp⟩
      · exact R.sl (xs := []) (b := 0) (off := 0) (g := fun _ => []) (by simp) (by simp) (by unfold maxLen; omega) (by simp) (by simp) (by simp)
    · cases hcs
      have hb := hw2 ((elems.length + rest.length) * 40) (by simp [DataW.weights, hS, hby])
      unfold reachBytes at hb
      have hone : ∀ i, i < len → ∃ z : (Lv × List PV) × List Value, (LvP z.1.1 (.ag z.1.2) ∧ Rl (memB W) noPh z.1.2 z.2 ∧ z.1.2.all cell = true ∧ z.2.length = 3 ∧ (∀ j v, z.2[j]? = some v → memB W a.block (a.off + i * 3 + j) = some v)) ∧ (i = 0 → a.spot = none) := fun i hi => by
        have h1 := hget i hi
        rw [hc, List.getElem?_eq_getElem (by omega)] at h1
        obtain ⟨cs', h2, h3⟩ := Option.bind_eq_some_iff.1 h1
        obtain ⟨l, ps, hlv, hps, hcell', hl3'⟩ := ih n' (by omega) cs' _ h3 (fun u hu => hw2 u (by
          simp only [DataW.weights, hS, List.mem_cons, List.mem_append]
          exact .inr (.inl (weightsAll_mem (List.mem_map.2 ⟨_, List.getElem_mem (by omega), rfl⟩) hu))))
        obtain ⟨_, hl3, hcell⟩ := World.cells?_some h2
        have hrd : ∀ j, (hj : j < 3) → Gw.Rd (memOf W) a.block (a.off + i * 3 + j) (cs'[j]'(by omega)) ∧ (j = 0 → (a.add (i * 3)).spot = none) := fun j hj => by
          have h5 := hcell j hj
          rw [List.getElem?_eq_getElem (by omega)] at h5
          have h4 := rd_cell (a := a.add (i * 3)) (i := j) h5
          rw [add_block, add_off] at h4
          exact h4
        refine ⟨((l, ps), cs'), ⟨hlv, hps, hcell', hl3', fun j v hj => ?_⟩, fun hi0 => ?_⟩
        · obtain ⟨hjl, hv⟩ := List.getElem?_eq_some_iff.1 hj
          have := (hrd j (by simp only at hjl; omega)).1
          simp only at hv
          rw [hv] at this
          exact memB_rd this
        · have := (hrd 0 (by omega)).2 rfl
          subst hi0
          simpa [Addr.add] using this
      obtain ⟨zs, hls, hat⟩ := list_of hone
      have hzl : (zs.map fun z => PV.ag z.1.2).length = len := by simp [hls]
      refine ⟨.mk k q (zs.map (·.1.1)), [iv k, iv q, .sl false 3 (zs.map fun z => .ag z.1.2)], ?_, .cons (.sc rfl) (.cons (.sc rfl) (.cons ?_ .nil)), rfl, rfl⟩
      · simp only [LvP]
        refine ⟨_, _, _, rfl, .inl rfl, ?_, by simp [hls]; omega⟩
        have := LvsP.of (zs := zs.map (·.1)) (fun i z hz => by
          rw [List.getElem?_map] at hz
          obtain ⟨z', hz', rfl⟩ := Option.map_eq_some_iff.1 hz
          exact (hat i z' hz').1.1)
        simpa [Function.comp_def] using this
      · have hsl := R.sl (m := memB W) (φ := noPh) (full := false) (sz := 3) (xs := zs.map fun z => PV.ag z.1.2) (a := some a) (cap := cap) a.block a.off (fun i => ((zs[i]?).map (·.2)).getD []) (fun hne => ?_) (by omega) hmax (by simp) (fun i x hx => ?_) (fun i x j c v hx hc' hv => ?_)
        · rwa [hzl] at hsl
        · have hpos : 0 < len := by
            rw [← hzl]
            exact List.length_pos_iff.2 hne
          have hspot := (hat 0 _ (List.getElem?_eq_getElem (by omega))).2 rfl
          obtain ⟨b, off, spot⟩ := a
          obtain rfl : spot = none := hspot
          rfl
        · rw [List.getElem?_map] at hx
          obtain ⟨z, hz, rfl⟩ := Option.map_eq_some_iff.1 hx
          obtain ⟨⟨_, h2, h3, h4, h5⟩, _⟩ := hat i z hz
          simp only [hz, Option.map_some, Option.getD_some]
          exact ⟨by simp only [PV.cells]; rw [h2.1, h4], h4, h5, h3⟩
        · rw [List.getElem?_map] at hx
          obtain ⟨z, hz, rfl⟩ := Option.map_eq_some_iff.1 hx
          obtain ⟨⟨_, h2, h3, h4, h5⟩, _⟩ := hat i z hz
          simp only [hz, Option.map_some, Option.getD_some] at hv
          exact h2.2 j c v hc' hv
end
end Go.Proofs.YtodfpilpdkdapaaGreatDoor

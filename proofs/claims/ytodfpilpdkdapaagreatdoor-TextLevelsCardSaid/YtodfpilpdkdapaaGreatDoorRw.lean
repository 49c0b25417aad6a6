/-
  From walks to rows: a call that leaves all that was there as it was; slices of numbers and levels out of readings.
-/
import Derived.Test.YtodfpilpdkdapaaGreatDoorLv
import Derived.ProofKit
import Derived.OpenShut
import Derived.Carry
import Derived.SizedLaws
import Derived.Deep.Slices
namespace Go.Gw
open Go Go.ChangeShapes Go.WideShapes Go.ChangeAt Go.RowKit

def memOf (W : World) : Mem := fun b => W.heap[b]?
theorem good0 (W : World) : Good ⟨W, memOf W, feetOf []⟩ W (memOf W) [] :=
  ⟨rfl, rfl, rfl, Nat.le_refl _, fun _ _ _ => rfl, fun _ _ h => h, Mem.le.refl _, fun _ _ h => .inl h, by simp, by simp, .nil⟩
theorem below_of {W W' : World} {m' : Mem} {μ' : Own} (hg : Good ⟨W, memOf W, feetOf []⟩ W' m' μ') : Below W.heap.size W W' :=
  ⟨hg.os, hg.tape, hg.output, hg.size, fun k hk => hg.keep k hk (fun ⟨r, hr, _⟩ => by cases hr)⟩

section
variable {H : Type} {enc : TypeId × Value → H} {P : Program} {W W' : World}

theorem trodAll_below (hl : laidOutB P = true) (hb : Below W.heap.size W W') {sp : Nat → Bool} : ∀ {ts : List TypeId} {vs : List Value} {ds : List (DataW H)} {ps : List MemPlace}, (∀ t ∈ ts, P.readableRec t = true ∧ t < P.types.size) →
    DataW.TrodAll enc P W 0 (fun _ => true) true ts vs ds ps → (∀ x ∈ ps, x.block < W.heap.size) → (∀ x ∈ ps, sp x.block = true) → DataW.TrodAll enc P W' 0 sp true ts vs ds ps
  | [], vs, ds, ps, _, h, _, _ => by
    obtain ⟨rfl, rfl, rfl⟩ := trodAll_nil h
    exact trodAll_mk0
  | t :: ts, vs, ds, ps, hts, h, hlt, hsp => by
    obtain ⟨v, vs', d, ds', p, q, rfl, rfl, rfl, h1, h2⟩ := trodAll_cons h
    have ht := hts t (by simp)
    exact trodAll_cons_mk (WideElems.Trod_stays hl ht.1 ht.2 h1 (fun x hx => hb.same (hlt x (List.mem_append_left _ hx))) (fun x hx => hsp x (List.mem_append_left _ hx)))
      (trodAll_below hl hb (fun t' h' => hts t' (List.mem_cons_of_mem _ h')) h2 (fun x hx => hlt x (List.mem_append_right _ hx)) (fun x hx => hsp x (List.mem_append_right _ hx)))

theorem post_low {f : Func} {s : ChangeSpec} {apart fresh handsOn again : Bool} {args : Array Value} {v : Value} {ds gs : List (DataW H)} {before : List MemPlace}
    (hW : DataW.Whole enc P f.params.toList s.vars apart W args.toList ds gs before) (hb : Below W.heap.size W W') (hl : laidOutB P = true) (hts : ∀ t ∈ f.params.toList, P.readableRec t = true ∧ t < P.types.size)
    (hvars : s.vars = []) (hargs : (s.fn H (ds ++ gs)).args = ds) (hvs : (s.fn H (ds ++ gs)).vars = [])
    (hres : ∀ (b : Nat) (sp : Nat → Bool) (hd : Bool), DataW.TrodAll enc P W' b sp hd f.resultTypes.toList (v.resultList f.resultTypes.size) (s.fn H (ds ++ gs)).results [])
    (hok : ∀ (j : Nat) (t : TypeId) (r : Value), f.resultTypes[j]? = some t → (v.resultList f.resultTypes.size)[j]? = some r → Value.okWide P W' .any 0 t r) :
    s.post enc P f apart fresh handsOn again W args v W' := by
  have hlt := hW.lt
  have hW' := hW
  obtain ⟨p, q, hA, hV, rfl, hz, hn⟩ := hW
  rw [hvars] at hV
  obtain ⟨rfl, rfl⟩ := trodVars_none hV
  simp only [List.append_nil] at hW' hlt hz hn hargs hvs hres ⊢
  have hA' : ∀ sp : Nat → Bool, (∀ x ∈ p, sp x.block = true) → DataW.TrodAll enc P W' 0 sp true f.params.toList args.toList (s.fn H ds).args p := fun sp h => by
    rw [hargs]
    exact trodAll_below hl hb hts hA hlt h
  have hV' : ∀ sp : Nat → Bool, DataW.TrodVars enc P W' sp s.vars (s.fn H ds).vars [] := fun sp => by
    rw [hvars, hvs]
    rfl
  refine ⟨ds, [], p, [], p, [], hW', by simpa using hres _ _ _, by simpa using hA' _ (fun x hx => by simpa using hlt x hx), by simpa using hV' _, hb.frame _, fun _ => ?_⟩
  refine ⟨hok, _, _, ([] ++ p) ++ [], ⟨[] ++ p, [], trodAll_append (hA' _ (fun _ _ => rfl)) (hres _ _ _), hV' _, rfl, ?_, ?_⟩, ?_⟩
  · intro b off hp
    have hp' : MemPlace.cell b off ∈ p := by simpa using hp
    rw [hb.frozen (hlt _ hp')]
    exact hz b off hp'
  · intro ha
    simpa using hn ha
  · intro x hx _
    simpa using hx

/-- a law's contract: the walk gives true, and all that was there stays -/
theorem law_post {f : Func} {s : ChangeSpec} {apart fresh handsOn again : Bool} {args : Array Value} {ds gs : List (DataW H)} {before : List MemPlace} {F : FuncId} {T : TypeId}
    (hW : DataW.Whole enc P f.params.toList s.vars apart W args.toList ds gs before) (hl : laidOutB P = true) (hts : ∀ t ∈ f.params.toList, P.readableRec t = true ∧ t < P.types.size)
    (hvars : s.vars = []) (hT : P.underlying T = some .bool) (hr : f.resultTypes = #[T]) (hout : s.fn H (ds ++ gs) = { results := [.lit (.bool true)], args := ds })
    (h : Scal P F args (memOf W) (.bool true)) : Calls P F args W fun e W' => ∃ v, e = .returned v ∧ s.post enc P f apart fresh handsOn again W args v W' := by
  refine (h W (good0 W)).mono fun e W' ⟨m', μ', hg, hq⟩ => ?_
  cases e with
  | returned v =>
    obtain ⟨rfl, -⟩ := hq
    refine ⟨_, rfl, post_low hW (below_of hg) hl hts hvars (by rw [hout]) (by rw [hout]) (fun b sp hd => ?_) (ok_one hr rfl (okWide_bool_mk hT _))⟩
    rw [hout, hr]
    exact trodAll_cons_mk (p := []) (p' := []) (shut_bool hT _) trodAll_mk0
  | _ => exact hq.elim

theorem rd_cell {a : Addr} {i : Nat} {v : Value} (h : W.cell? (a.add i) = some v) : Rd (memOf W) a.block (a.off + i) v ∧ (i = 0 → a.spot = none) := by
  unfold World.cell? at h
  have hblk : (a.add i).block = a.block := by unfold Addr.add; split <;> rfl
  have hoff : (a.add i).off = a.off + i := by
    unfold Addr.add
    split
    · rename_i e; rw [e]; rfl
    · rfl
  rw [hblk] at h
  split at h
  · rename_i c T fr e
    split at h
    · cases h
    · rename_i hs
      rw [hoff] at h
      refine ⟨⟨c, T, fr, e, h⟩, fun hi => ?_⟩
      subst hi
      simpa [Addr.add] using hs
  · cases h

theorem ints_of {t e : TypeId} {fuel : Nat} {cs : List Value} {x : DataW H × List MemPlace} (ht : P.underlying t = some (.slice e)) (he : P.underlying e = some (.int .i64)) (hc : P.cellsOf e = 1) (hby : P.bytesOf e = 8)
    (h : DataW.trod enc P W 0 (fun _ => true) true fuel t cs = some x) (hw : ∀ n ∈ x.1.weights P t, n ≤ reachBytes) : ∃ vs sv, cs = [sv] ∧ IntsV (memOf W) vs sv := by
  rcases open_ints ht he hc h with ⟨rfl, rfl⟩ | ⟨a, len, cap, zs, rfl, _, hl, hm, hzl, rfl, hcell, _⟩
  · exact ⟨[], _, rfl, none, 0, rfl, by simp, by simp, by simp⟩
  · simp only [if_true] at hzl
    have hlen : (zs.take len).length = len := by rw [List.length_take, hzl]; omega
    have hb := hw ((len + (cap - len)) * 8) (by simp [DataW.weights, ht, hby, lits, hzl, Nat.min_eq_left hl])
    unfold reachBytes at hb
    refine ⟨zs.take len, _, rfl, some a, cap, by rw [hlen], by omega, by omega, fun i v hv => ?_⟩
    have hi : i < len := by
      have := (List.getElem?_eq_some_iff.1 hv).1
      omega
    have hv' : zs[i]? = some v := by rw [List.getElem?_take_of_lt hi] at hv; exact hv
    have hz : zs.getD i 0 = v := by rw [List.getD_eq_getElem?_getD, hv']; rfl
    have h0 := rd_cell (hcell 0 (by omega))
    have h1 := rd_cell (hcell i (by omega))
    rw [hz] at h1
    obtain ⟨b, off, spot⟩ := a
    obtain rfl : spot = none := h0.2 rfl
    exact ⟨b, off, rfl, by simpa using h1.1⟩

theorem add_block (a : Addr) (i : Nat) : (a.add i).block = a.block := by unfold Addr.add; split <;> rfl
theorem add_off (a : Addr) (i : Nat) : (a.add i).off = a.off + i := by
  unfold Addr.add
  split
  · rename_i e; rw [e]; rfl
  · rfl
theorem LvsV.of {m : Mem} : ∀ {ls : List Lv} {b off : Nat}, (∀ i l, ls[i]? = some l → ∃ cs, RdN m b (off + i * 3) cs ∧ LvV m l cs) → LvsV m ls b off
  | [], _, _, _ => trivial
  | l :: r, b, off, h => by
    refine ⟨by simpa using h 0 l rfl, LvsV.of fun i l' hl => ?_⟩
    have := h (i + 1) l' (by simpa using hl)
    rwa [show off + (i + 1) * 3 = off + 3 + i * 3 by omega] at this
theorem list_of {α : Type} {Q : Nat → α → Prop} : ∀ {n : Nat}, (∀ i, i < n → ∃ x, Q i x) → ∃ xs : List α, xs.length = n ∧ ∀ i x, xs[i]? = some x → Q i x
  | 0, _ => ⟨[], rfl, fun i x h => by simp at h⟩
  | n + 1, h => by
    obtain ⟨xs, h1, h2⟩ := list_of (n := n) fun i hi => h i (by omega)
    obtain ⟨x, hx⟩ := h n (by omega)
    refine ⟨xs ++ [x], by simp [h1], fun i y hy => ?_⟩
    by_cases hi : i < n
    · rw [List.getElem?_append_left (by omega)] at hy
      exact h2 i y hy
    · have hlt := (List.getElem?_eq_some_iff.1 hy).1
      simp at hlt
      obtain rfl : i = n := by omega
      rw [List.getElem?_append_right (by omega), h1] at hy
      simp at hy
      subst hy
      exact hx
theorem weightsAll_mem {e : TypeId} : ∀ {ds : List (DataW H)} {d : DataW H} {n : Nat}, d ∈ ds → n ∈ d.weights P e → n ∈ DataW.weightsAll P e ds
  | d0 :: r, d, n, hd, hn => by
    simp only [DataW.weightsAll, List.mem_append]
    rcases List.mem_cons.1 hd with rfl | hd
    · exact .inl hn
    · exact .inr (weightsAll_mem hd hn)

/-- a level out of its reading -/
theorem lv_of {T S I : TypeId} {f0 f1 f2 : Field} (hT : P.underlying T = some (.struct #[f0, f1, f2])) (hS : P.underlying S = some (.slice T)) (hI : P.underlying I = some (.int .i64)) (hc : P.cellsOf T = 3) (hcS : P.cellsOf S = 1) (hcI : P.cellsOf I = 1) (hby : P.bytesOf T = 40)
    (e0 : f0.type = I) (o0 : f0.offset = 0) (e1 : f1.type = I) (o1 : f1.offset = 1) (e2 : f2.type = S) (o2 : f2.offset = 2) :
    ∀ (fuel : Nat) (cs : List Value) (x : DataW H × List MemPlace), DataW.trod enc P W 0 (fun _ => true) true fuel T cs = some x → (∀ n ∈ x.1.weights P T, n ≤ reachBytes) → ∃ l, LvV (memOf W) l cs := by
  intro fuel
  induction fuel using Nat.strongRecOn with
  | _ fuel ih =>
    intro cs x h hw
    obtain ⟨xs, n, rfl, rfl, hlen, hxs, hf⟩ := DataW.trod_struct hT h
    rw [hc] at hlen
    obtain ⟨c0, c1, c2, rfl⟩ : ∃ c0 c1 c2, cs = [c0, c1, c2] := by
      match cs, hlen with
      | [c0, c1, c2], _ => exact ⟨c0, c1, c2, rfl⟩
    obtain ⟨y0, y1, y2, rfl⟩ : ∃ y0 y1 y2, xs = [y0, y1, y2] := by
      match xs, hxs with
      | [y0, y1, y2], _ => exact ⟨y0, y1, y2, rfl⟩
    have g0 := hf 0 f0 rfl
    have g1 := hf 1 f1 rfl
    have g2 := hf 2 f2 rfl
    rw [e0, o0, hcI] at g0
    rw [e1, o1, hcI] at g1
    rw [e2, o2, hcS] at g2
    replace g0 : DataW.trod enc P W 0 (fun _ => true) true n I [c0] = some y0 := g0
    replace g1 : DataW.trod enc P W 0 (fun _ => true) true n I [c1] = some y1 := g1
    replace g2 : DataW.trod enc P W 0 (fun _ => true) true n S [c2] = some y2 := g2
    obtain ⟨k, hk, _, wk⟩ := DataW.trod_int hI g0
    obtain ⟨q, hq, _, wq⟩ := DataW.trod_int hI g1
    cases hk
    cases hq
    have lk : i64 k := by
      simp [Lit.wf, IntKind.min, IntKind.max, IntKind.signed, IntKind.bits] at wk
      unfold i64; omega
    have lq : i64 q := by
      simp [Lit.wf, IntKind.min, IntKind.max, IntKind.signed, IntKind.bits] at wq
      unfold i64; omega
    have hw2 : ∀ n ∈ y2.1.weights P S, n ≤ reachBytes := fun u hu => hw u (by
      simp only [DataW.weights, hT, List.map_cons, List.map_nil]
      refine DataW.weights_mem_each (j := 2) (t := S) (d := y2.1) ?_ rfl u hu
      simp [e2])
    rcases DataW.trod_slice hS g2 with ⟨hn, _⟩ | ⟨a, len, cap, elems, rest, n', rfl, hcs, rfl, _, hl, _, hel, hget, hsp, _⟩
    · cases hn
      refine ⟨.mk k q [], ?_⟩
      simp only [LvV]
      exact ⟨lk, lq, none, 0, rfl, ⟨by simp, by simp⟩, .inl trivial⟩
    · cases hcs
      have hb := hw2 ((elems.length + rest.length) * 40) (by simp [DataW.weights, hS, hby])
      unfold reachBytes at hb
      have hone : ∀ i, i < len → ∃ l, (∃ cs, RdN (memOf W) a.block (a.off + i * 3) cs ∧ LvV (memOf W) l cs) ∧ (i = 0 → a.spot = none) := fun i hi => by
        have h1 := hget i hi
        rw [hc, List.getElem?_eq_getElem (by omega)] at h1
        obtain ⟨cs', h2, h3⟩ := Option.bind_eq_some_iff.1 h1
        obtain ⟨l, hlv⟩ := ih n' (by omega) cs' _ h3 (fun u hu => hw2 u (by
          simp only [DataW.weights, hS, List.mem_cons, List.mem_append]
          exact .inr (.inl (weightsAll_mem (List.mem_map.2 ⟨_, List.getElem_mem (by omega), rfl⟩) hu))))
        obtain ⟨_, hl3, hcell⟩ := World.cells?_some h2
        have hrd : ∀ j, (hj : j < 3) → Rd (memOf W) a.block (a.off + i * 3 + j) (cs'[j]'(by omega)) ∧ (j = 0 → (a.add (i * 3)).spot = none) := fun j hj => by
          have h5 := hcell j hj
          rw [List.getElem?_eq_getElem (by omega)] at h5
          have h4 := rd_cell (a := a.add (i * 3)) (i := j) h5
          rw [add_block, add_off] at h4
          exact h4
        refine ⟨l, ⟨cs', fun j v hj => ?_, hlv⟩, fun hi0 => ?_⟩
        · obtain ⟨hjl, hv⟩ := List.getElem?_eq_some_iff.1 hj
          have := (hrd j (by omega)).1
          rwa [hv] at this
        · have := (hrd 0 (by omega)).2 rfl
          subst hi0
          simpa [Addr.add] using this
      obtain ⟨ls, hls, hat⟩ := list_of hone
      refine ⟨.mk k q ls, ?_⟩
      simp only [LvV]
      refine ⟨lk, lq, some a, cap, by rw [hls], ⟨by omega, by omega⟩, ?_⟩
      by_cases h0 : ls = []
      · exact .inl h0
      · right
        have hpos : 0 < ls.length := List.length_pos_iff.2 h0
        have hspot := (hat 0 _ (List.getElem?_eq_getElem hpos)).2 rfl
        obtain ⟨b, off, spot⟩ := a
        obtain rfl : spot = none := hspot
        exact ⟨b, off, rfl, LvsV.of fun i l hl => (hat i l hl).1⟩

end
end Go.Gw

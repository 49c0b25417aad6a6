/-
  The plain machine's store, and what lies in memory for it. Plain lemmas, no statement of the seat.
-/
import Derived.Test.YtodfpilpdkdapaaGreatDoorAp
namespace Go.Am
open Go Go.Hb
open Go.Gw (tk tf tz tsl tar tpl isAggD)

/-- the cells of a row's elements -/
def RowR (m : Mem) (φ : Ph) (sz : Nat) (xs : List PV) (vss : List (List Value)) : Prop :=
  xs.length = vss.length ∧ ∀ (i : Nat) x vs, xs[i]? = some x → vss[i]? = some vs → x.cells.length = sz ∧ vs.length = sz ∧ x.cells.all cell = true ∧ Rl m φ x.cells vs

/-- how a loop over a function stands -/
def LpS.is (s : LpS) (r : Loop) : Prop := match s with
  | .ready => r.state = .ready ∧ r.pending = none
  | .busy => r.state = .busy
  | .done none => r.state = .done ∧ r.pending = some .ret
  | .done (some i) => r.state = .done ∧ r.pending = some (.exit i)
/-- slots are within -/
def dstOk (n : Nat) : Option Nat → Bool
  | some d => Nat.blt d n
  | none => true
def noDefer : Op → Bool
  | .defer _ => false
  | _ => true
def slots (n : Nat) : Code → Bool
  | .seq a b => slots n a && slots n b
  | .region _ ops _ => ops.toList.all fun o => dstOk n o.dst && noDefer o.op
  | .cond _ a b => slots n a && slots n b
  | .block _ c => slots n c
  | .loop c => slots n c
  | .rangeFunc _ ps a b => ps.toList.all (fun t => Nat.blt t n) && slots n a && slots n b
  | _ => true
def SRo (m : Mem) (φ : Ph) (id : Nat) : SO → Own → Prop
  | .dead, rs => rs = []
  | .box T cs, rs => ∃ b vs, φ id = some (.blk b) ∧ rs = [bx b T vs] ∧ Rl m φ cs vs ∧ cs.all cell = true
  | .frz cs, rs => rs = [] ∧ ∃ b vs, φ id = some (.blk b) ∧ RdN m b 0 vs ∧ Rl m φ cs vs ∧ cs.all cell = true
  | .row p e sz xs, rs => ∃ a cap vss, φ id = some (.row (.slice a xs.length cap) xs.length sz) ∧ rs = [.row p (.slice a xs.length cap) e sz xs.length vss.flatten] ∧ 0 < sz ∧ RowR m φ sz xs vss
  | .lp ρ ps a b s, rs => ∃ l r, φ id = some (.blk l) ∧ rs = [.blk l (.loop r)] ∧ s.is r ∧ r.params = ps.toArray ∧ r.assign = a ∧ r.body = b ∧ slots r.tmps.size a = true ∧ slots r.tmps.size b = true ∧ ps.all (fun t => Nat.blt t r.tmps.size) = true ∧
    ∀ t x, aget ρ t = some x → ∃ v, r.tmps[t]? = some v ∧ R m φ x v

def SR (m : Mem) (φ : Ph) : Nat → Sto → Own → Prop
  | _, [], μ => μ = []
  | k, o :: r, μ => ∃ rs μ', μ = rs ++ μ' ∧ SRo m φ k o rs ∧ SR m φ (k + 1) r μ'

section
variable {m m' : Mem} {φ φ' : Ph}

theorem RowR.mono {sz : Nat} {xs : List PV} {vss : List (List Value)} (h : RowR m φ sz xs vss) (hm : Mem.le m m') (hle : Le φ φ') : RowR m' φ' sz xs vss :=
  ⟨h.1, fun i x vs h1 h2 => ⟨(h.2 i x vs h1 h2).1, (h.2 i x vs h1 h2).2.1, (h.2 i x vs h1 h2).2.2.1, (h.2 i x vs h1 h2).2.2.2.mono hm hle⟩⟩
theorem RowR.flat {sz : Nat} : ∀ {xs : List PV} {vss : List (List Value)}, RowR m φ sz xs vss → vss.flatten.length = xs.length * sz
  | [], [], _ => by simp
  | x :: xs, vs :: vss, h => by
    have h0 := h.2 0 x vs rfl rfl
    have hr : RowR m φ sz xs vss := ⟨by have := h.1; simpa using this, fun i x vs h1 h2 => h.2 (i + 1) x vs (by simpa using h1) (by simpa using h2)⟩
    rw [List.flatten_cons, List.length_append, hr.flat, h0.2.1, List.length_cons, Nat.succ_mul, Nat.add_comm]
  | [], _ :: _, h => absurd h.1 (by simp)
  | _ :: _, [], h => absurd h.1 (by simp)
theorem RowR.at {sz : Nat} : ∀ {xs : List PV} {vss : List (List Value)}, RowR m φ sz xs vss → ∀ {i : Nat} {vs : List Value}, vss[i]? = some vs → ∀ (j : Nat), j < sz → vss.flatten[i * sz + j]? = vs[j]?
  | [], [], _, i, vs, h, _, _ => by simp at h
  | x :: xs, us :: vss, h, i, vs, hv, j, hj => by
    have h0 := h.2 0 x us rfl rfl
    have hr : RowR m φ sz xs vss := ⟨by have := h.1; simpa using this, fun i x vs h1 h2 => h.2 (i + 1) x vs (by simpa using h1) (by simpa using h2)⟩
    cases i with
    | zero =>
      simp at hv
      subst hv
      rw [List.flatten_cons, Nat.zero_mul, Nat.zero_add, List.getElem?_append_left (by rw [h0.2.1]; exact hj)]
    | succ i =>
      have := hr.at (i := i) (by simpa using hv) j hj
      rw [← this, List.flatten_cons, List.getElem?_append_right (by rw [h0.2.1, Nat.succ_mul]; omega), h0.2.1, Nat.succ_mul]
      congr 1
      omega
  | [], _ :: _, h, _, _, _, _, _ => absurd h.1 (by simp)
  | _ :: _, [], h, _, _, _, _, _ => absurd h.1 (by simp)
theorem RowR.append {sz : Nat} {xs ys : List PV} {us vs : List (List Value)} (h : RowR m φ sz xs us) (k : RowR m φ sz ys vs) : RowR m φ sz (xs ++ ys) (us ++ vs) := by
  refine ⟨by simp [h.1, k.1], fun i x v h1 h2 => ?_⟩
  by_cases hi : i < xs.length
  · rw [List.getElem?_append_left hi] at h1
    rw [List.getElem?_append_left (by have := h.1; omega)] at h2
    exact h.2 i x v h1 h2
  · rw [List.getElem?_append_right (by omega)] at h1
    rw [List.getElem?_append_right (by have := h.1; omega), ← h.1] at h2
    exact k.2 _ x v h1 h2

theorem SRo.mono {id : Nat} {o : SO} {rs : Own} (h : SRo m φ id o rs) (hm : Mem.le m m') (hle : Le φ φ') (he : φ' id = φ id) : SRo m' φ' id o rs := by
  cases o with
  | dead => exact h
  | box T cs => obtain ⟨b, vs, h1, h2, h3, h4⟩ := h; exact ⟨b, vs, he.trans h1, h2, h3.mono hm hle, h4⟩
  | frz cs => obtain ⟨h0, b, vs, h1, h2, h3, h4⟩ := h; exact ⟨h0, b, vs, he.trans h1, h2.mono hm, h3.mono hm hle, h4⟩
  | row p e sz xs => obtain ⟨a, cap, vss, h1, h2, h3, h4⟩ := h; exact ⟨a, cap, vss, he.trans h1, h2, h3, h4.mono hm hle⟩
  | lp ρ ps a b s =>
    obtain ⟨l, r, h1, h2, h3, h4, h5, h6, h7, h8, h9, h10⟩ := h
    exact ⟨l, r, he.trans h1, h2, h3, h4, h5, h6, h7, h8, h9, fun t x ht => (let ⟨v, q1, q2⟩ := h10 t x ht; ⟨v, q1, q2.mono hm hle⟩)⟩

theorem SR.mono (hm : Mem.le m m') (hle : Le φ φ') : ∀ {k : Nat} {st : Sto} {μ : Own}, SR m φ k st μ → (∀ id, k ≤ id → id < k + st.length → φ' id = φ id) → SR m' φ' k st μ
  | _, [], _, h, _ => h
  | k, o :: r, μ, h, he => by
    obtain ⟨rs, μ', h1, h2, h3⟩ := h
    exact ⟨rs, μ', h1, h2.mono hm hle (he k (Nat.le_refl k) (by simp)), SR.mono hm hle h3 fun id h4 h5 => he id (by omega) (by simp only [List.length_cons]; omega)⟩

/-- one of the store's things, taken out, and another put in its place -/
theorem SR.get : ∀ {k : Nat} {st : Sto} {μ : Own} {i : Nat} {o : SO}, SR m φ k st μ → st[i]? = some o → ∃ μ1 rs μ2, μ = μ1 ++ (rs ++ μ2) ∧ SRo m φ (k + i) o rs ∧
    ∀ {m' : Mem} {φ' : Ph} {o' : SO} {rs' : Own}, Mem.le m m' → Le φ φ' → (∀ id, id ≠ k + i → φ' id = φ id) → SRo m' φ' (k + i) o' rs' → SR m' φ' k (st.set i o') (μ1 ++ (rs' ++ μ2))
  | _, [], _, i, o, _, h => by simp at h
  | k, q :: r, μ, i, o, h, hi => by
    obtain ⟨rs, μ', h1, h2, h3⟩ := h
    cases i with
    | zero =>
      simp at hi
      subst hi
      refine ⟨[], rs, μ', by simpa using h1, h2, fun {m' φ' o' rs'} hm hle he ho => ?_⟩
      exact ⟨rs', μ', rfl, ho, h3.mono hm hle fun id h4 _ => he id (by omega)⟩
    | succ i =>
      obtain ⟨μ1, rs2, μ2, h4, h5, h6⟩ := SR.get h3 (show r[i]? = some o by simpa using hi)
      refine ⟨rs ++ μ1, rs2, μ2, by rw [h1, h4]; simp, by rw [show k + (i + 1) = k + 1 + i by omega]; exact h5, fun {m' φ' o' rs'} hm hle he ho => ?_⟩
      exact ⟨rs, μ1 ++ (rs' ++ μ2), by simp, h2.mono hm hle (he k (by omega)), h6 hm hle (fun id hne => he id (by omega)) (by rw [show k + 1 + i = k + (i + 1) by omega]; exact ho)⟩

theorem SR.snoc : ∀ {k : Nat} {st : Sto} {μ : Own} {o : SO} {rs : Own}, SR m φ k st μ → SRo m φ (k + st.length) o rs → SR m φ k (st ++ [o]) (μ ++ rs)
  | k, [], μ, o, rs, h, ho => by
    have h : μ = [] := h
    subst h
    exact ⟨rs, [], by simp, ho, rfl⟩
  | k, q :: r, μ, o, rs, h, ho => by
    obtain ⟨rs1, μ', h1, h2, h3⟩ := h
    exact ⟨rs1, μ' ++ rs, by rw [h1]; simp, h2, SR.snoc h3 (by rw [show k + 1 + r.length = k + (q :: r).length by simp; omega]; exact ho)⟩

/-- how things stand -/
structure Sit (E : Entry) (m : Mem) (φ : Ph) (μ : Own) (st : Sto) (w : World) : Prop where
  good : Hb.Good E w m μ
  sto : SR m φ 0 st μ
  dom : ∀ id, st.length ≤ id → φ id = none

/-- what stays as it was -/
structure Ext (st st' : Sto) (φ φ' : Ph) : Prop where
  le : Le φ φ'
  len : st.length ≤ st'.length
  dead : ∀ id, st[id]? = some .dead → st'[id]? = some .dead ∧ φ' id = φ id
theorem Ext.refl (st : Sto) (φ : Ph) : Ext st st φ φ := ⟨Le.refl φ, Nat.le_refl _, fun _ h => ⟨h, rfl⟩⟩
theorem Ext.trans {st st' st'' : Sto} {φ φ' φ'' : Ph} (h : Ext st st' φ φ') (k : Ext st' st'' φ' φ'') : Ext st st'' φ φ'' :=
  ⟨h.le.trans k.le, Nat.le_trans h.len k.len, fun id e => ⟨(k.dead id (h.dead id e).1).1, (k.dead id (h.dead id e).1).2.trans (h.dead id e).2⟩⟩

theorem Good.memW {E : Entry} {w : World} {μ : Own} (h : Hb.Good E w m μ) : MemW m w := fun _ _ _ e => h.cell e

end

/-! looks at the store -/
section
variable {P : Program} {E : Entry} {m : Mem} {φ : Ph} {μ : Own} {st : Sto} {ρ : AEnv} {a : Act} {w : World} {dst : Option Nat} {ty : TypeId} {pos : String} {after : Array Edge} {gd : Option (Nat × Bool)}

theorem loadS_run {T : TypeId} {ag : Bool} {k : Nat} {p u : PV} {v : Value} (hs : Sit E m φ μ st w) (ht : tk P T = some (ag, k)) (h : loadS st ag k p = some u) (hp : R m φ p v) : ∃ b off r, v = .pointer (some ⟨b, off, none⟩) ∧ (loadVar T ⟨b, off, none⟩).run P w = .ok r w ∧ R m φ u r := by
  unfold loadS at h
  split at h
  · rename_i id off
    cases hp with
    | @bp _ _ _ b hφ =>
      split at h
      · rename_i T' cs ho
        obtain ⟨μ1, rs, μ2, h1, h2, _⟩ := hs.sto.get ho
        obtain ⟨b', vs, h3, h4, h5, h6⟩ := h2
        rw [Nat.zero_add, hφ] at h3
        cases h3
        obtain ⟨r, h7, h8⟩ := loadP_R h h5 h6
        have hb : w.heap[b]? = some (.cells vs.toArray T' (0, 0)) := hs.good.own (r := bx b T' vs) (by rw [h1, h4]; simp)
        exact ⟨b, off, r, rfl, Gw.run_loadVar_cells (w := w) (b := b) ht (fun j u hu => Gw.cell_of_cells hb hu) h7, h8⟩
      · rename_i cs ho
        obtain ⟨μ1, rs, μ2, h1, h2, _⟩ := hs.sto.get ho
        obtain ⟨_, b', vs, h3, h4, h5, h6⟩ := h2
        rw [Nat.zero_add, hφ] at h3
        cases h3
        obtain ⟨r, h7, h8⟩ := loadP_R h h5 h6
        exact ⟨b, off, r, rfl, Gw.run_loadVar_cells (w := w) (b := b) ht (fun j u hu => by
          have := hs.good.cell (h4 j u hu)
          rwa [Nat.zero_add] at this) h7, h8⟩
      · cases h
  · rename_i id len i off
    cases hp with
    | @rp _ _ _ _ _ n sz sv v hφ hle hv hpp =>
      split at h
      · rename_i p' e sz0 xs ho
        obtain ⟨μ1, rs, μ2, h1, h2, _⟩ := hs.sto.get ho
        obtain ⟨ad, cap, vss, h3, h4, hsz, h5⟩ := h2
        rw [Nat.zero_add, hφ] at h3
        cases h3
        split at h
        · rename_i x hlen hx
          obtain ⟨b, cap', e1, rfl⟩ := hv (Nat.eq_of_beq_eq_true hlen)
          cases e1
          obtain ⟨vs, hvs⟩ : ∃ vs, vss[i]? = some vs := ⟨_, List.getElem?_eq_getElem (by have := h5.1; have := (List.getElem?_eq_some_iff.1 hx).1; omega)⟩
          obtain ⟨q1, q2, q3, q4⟩ := h5.2 i x vs hx hvs
          obtain ⟨r, h7, h8⟩ := loadP_R h q4 q3
          have hown : w.ownsRow 0 e sz (.slice (some ⟨b, 0, none⟩) xs.length cap) xs.length vss.flatten := hs.good.own (r := .row p' (.slice (some ⟨b, 0, none⟩) xs.length cap) e sz xs.length vss.flatten) (by rw [h1, h4]; simp)
          have hcells := hown.cells (g := b) rfl
          have hc : ∀ (j : Nat) u, vs[j]? = some u → w.cell? ⟨b, i * sz + j, none⟩ = some u := fun j u hu => by
            have hj : j < sz := by have := (List.getElem?_eq_some_iff.1 hu).1; omega
            have := hcells (i * sz + j) u (by rw [h5.at hvs j hj]; exact hu)
            rwa [Addr.add_lit, Nat.zero_add] at this
          refine ⟨b, i * sz + off, r, rfl, ?_, h8⟩
          have hd : Gw.loadV ag (vs.drop off) 0 k = some r := by
            unfold Gw.loadV at h7 ⊢
            cases ag with
            | true =>
              simp only at h7 ⊢
              split at h7
              · rename_i hle'
                have hle'' := Nat.le_of_ble_eq_true hle'
                have : Nat.ble (0 + k) (vs.drop off).length = true := Nat.ble_eq_true_of_le (by simp; omega)
                rw [this]
                simpa [Gw.cut] using h7
              · cases h7
            | false => simpa using h7
          exact run_loadVar (w := w) ht (fun j u hu => by
            rw [List.getElem?_drop] at hu
            have := hc _ u hu
            rwa [← Nat.add_assoc] at this) hd
        · cases h
      · cases h
  · cases h

theorem does_K {op : Op} {u : PV} (hs : Sit E m φ μ st w) (h : EnvR m φ ρ a) (hx : aK P ρ st op = some u) : Does P w a m φ ⟨dst, op, ty, pos, after, gd⟩ u := by
  unfold aK at hx
  split at hx
  · rename_i T x i
    split at hx
    · rename_i e z p pi ht hp hpi
      split at hx
      · rename_i q hq
        obtain ⟨k, ek⟩ := nat_int hq (aval_R h hpi)
        unfold rowIdx at hx
        split at hx
        · rename_i id len
          split at hx
          · rename_i p' e' sz xs ho
            split at hx
            · rename_i hb
              cases hx
              simp only [Bool.and_eq_true] at hb
              have hlen := Nat.eq_of_beq_eq_true hb.1.1
              have hlt : q < len := by simpa [Nat.blt_eq] using hb.1.2
              obtain rfl := Nat.eq_of_beq_eq_true hb.2
              have hr := aval_R h hp
              generalize he : a.eval x = ev at hr
              cases hr with
              | @ms _ _ _ n sz sv v hφ hle hv hsl =>
                obtain ⟨μ1, rs, μ2, h1, h2, _⟩ := hs.sto.get ho
                obtain ⟨ad, cap, vss, h3, h4, hsz, h5⟩ := h2
                rw [Nat.zero_add, hφ] at h3
                cases h3
                obtain rfl := hv hlen
                have hown : w.ownsRow 0 e' z (.slice ad xs.length cap) xs.length vss.flatten := hs.good.own (r := .row p' (.slice ad xs.length cap) e' z xs.length vss.flatten) (by rw [h1, h4]; simp)
                obtain ⟨b, rfl⟩ : ∃ b, ad = some ⟨b, 0, none⟩ := by
                  rcases hown.2 with ⟨_, h0⟩ | ⟨g, cap', cur, hv', _⟩
                  · omega
                  · cases hv'; exact ⟨g, rfl⟩
                refine ⟨.pointer (some ⟨b, q * z + 0, none⟩), ?_, .rp hφ hle (fun _ => ⟨b, cap, rfl, rfl⟩) ⟨_, _, rfl⟩⟩
                unfold tsl at ht
                split at ht
                · rename_i e'' hee
                  cases hii : P.info? e'' with
                  | none => simp [hii] at ht
                  | some ii =>
                    simp [hii] at ht
                    obtain ⟨rfl, rfl⟩ := ht
                    have hlt' : q < xs.length := by omega
                    simp [execOp, Instr.indexAt, he, ek, asIntOf, run_underlying hee, hlt', sizeOf, typeInfo, hii, Addr.add_lit]
                · cases ht
            · cases hx
          · cases hx
        · cases hx
      · cases hx
    · cases hx
  · rename_i T x
    split at hx
    · rename_i ag k p ht hp
      obtain ⟨b, off, r, e, h1, h2⟩ := loadS_run hs ht hx (aval_R h hp)
      exact ⟨r, by simp [execOp, Instr.loadAt, e, Instr.sureAddr, h1], h2⟩
    · cases hx
  · rename_i xs ts
    split at hx
    · rename_i x T hxs hts
      obtain rfl : xs = #[x] := by apply Array.ext'; simpa using hxs
      obtain rfl : ts = #[T] := by apply Array.ext'; simpa using hts
      split at hx
      · rename_i e v ht hv
        unfold rowLen at hx
        split at hx
        · rename_i id len
          split at hx
          · rename_i p' e' sz xs ho
            split at hx
            · rename_i hlen
              cases hx
              have hr := aval_R h hv
              generalize he : a.eval x = ev at hr
              cases hr with
              | @ms _ _ _ n sz sv v hφ hle hvv hsl =>
                obtain ⟨μ1, rs, μ2, h1, h2, _⟩ := hs.sto.get ho
                obtain ⟨ad, cap, vss, h3, h4, hsz, h5⟩ := h2
                rw [Nat.zero_add, hφ] at h3
                cases h3
                obtain rfl := Nat.eq_of_beq_eq_true hlen
                obtain rfl := hvv rfl
                refine ⟨_, ?_, .sc rfl⟩
                unfold tsl at ht
                split at ht
                · rename_i e'' hee
                  simp [execOp, resolve, invoke, builtin, Builtin.len_, he, run_underlying hee, goInt]
                · cases ht
            · cases hx
          · cases hx
        · cases hx
      · cases hx
    · cases hx
  · cases hx

end
end Go.Am

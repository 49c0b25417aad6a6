/-
  Operations of the plain machine that act: the model's do the same. Plain lemmas, no statement of the seat.
-/
import Derived.Test.YtodfpilpdkdapaaGreatDoorAq
namespace Go.Am
open Go Go.Hb
open Go.Gw (tk tf tz tsl tar tpl isAggD)

/-- a place for one thing more -/
def more (φ : Ph) (id : Nat) (p : Phi) : Ph := fun j => if j = id then some p else φ j
theorem more_self (φ : Ph) (id : Nat) (p : Phi) : more φ id p id = some p := by simp [more]
theorem more_other {φ : Ph} {id j : Nat} {p : Phi} (h : j ≠ id) : more φ id p j = φ j := by simp [more, h]
theorem le_more {φ : Ph} {id : Nat} {p : Phi} (h : φ id = none) : Le φ (more φ id p) := fun j => by
  by_cases e : j = id
  · subst e; exact ⟨fun b hb => (by rw [h] at hb; cases hb), fun sv n sz hb => (by rw [h] at hb; cases hb)⟩
  · rw [more_other e]; exact Le.refl φ j

section
variable {P : Program} {E : Entry} {m : Mem} {φ : Ph} {μ : Own} {st : Sto} {ρ : AEnv} {a : Act} {w : World} {dst : Option Nat} {ty : TypeId} {pos : String} {after : Array Edge} {gd : Option (Nat × Bool)}

/-- what is known behind an operation that acts -/
def Acts (P : Program) (E : Entry) (m : Mem) (φ : Ph) (st : Sto) (w : World) (a : Act) (o : Oper) : AR → Prop
  | .val x st' => ∃ v w' m' φ' μ', (execOp a.eval o).run P w = .ok (.value v) w' ∧ Mem.le m m' ∧ Ext st st' φ φ' ∧ Sit E m' φ' μ' st' w' ∧ R m' φ' x v
  | .unit st' => ∃ w' m' φ' μ', (execOp a.eval o).run P w = .ok .skip w' ∧ Mem.le m m' ∧ Ext st st' φ φ' ∧ Sit E m' φ' μ' st' w'
  | .pan x st' => ∃ v w' m' φ' μ', (execOp a.eval o).run P w = .halt (.panic v) w' ∧ Mem.le m m' ∧ Ext st st' φ φ' ∧ Sit E m' φ' μ' st' w' ∧ R m' φ' x v

/-- a new thing of the store -/
theorem Sit.push {w' : World} {p : Phi} {o : SO} {r : Res} (hs : Sit E m φ μ st w) (hg : Hb.Good E w' m (r :: μ)) (ho : SRo m (more φ st.length p) st.length o [r]) : Sit E m (more φ st.length p) (μ ++ [r]) (st ++ [o]) w' ∧ Ext st (st ++ [o]) φ (more φ st.length p) := by
  have hle : Le φ (more φ st.length p) := le_more (hs.dom _ (Nat.le_refl _))
  refine ⟨⟨hg.perm (List.perm_append_singleton r μ).symm, SR.snoc (hs.sto.mono (Mem.le.refl m) hle fun id _ h => more_other (by omega)) (by rw [Nat.zero_add]; exact ho), fun id h => ?_⟩, ⟨hle, by simp, fun id h => ?_⟩⟩
  · simp only [List.length_append, List.length_cons, List.length_nil] at h
    rw [more_other (by omega)]
    exact hs.dom id (by omega)
  · have hlt := (List.getElem?_eq_some_iff.1 h).1
    rw [List.getElem?_append_left hlt, more_other (by omega)]
    exact ⟨h, rfl⟩

theorem run_newVar {T : TypeId} {v : Value} : (newVar T v).run P w = .ok ⟨w.heap.size, 0, none⟩ { w with heap := w.heap.push (.cells v.cells T (0, 0)) } := by
  simp [newVar, newRow, newObj, Sem.run]

theorem box_sit {T : TypeId} {cs : List PV} {v : Value} (hs : Sit E m φ μ st w) (hr : Rl m φ cs v.cells.toList) (hc : cs.all cell = true) :
    ∃ φ' μ', Ext st (st ++ [.box T cs]) φ φ' ∧ Sit E m φ' μ' (st ++ [.box T cs]) { w with heap := w.heap.push (.cells v.cells T (0, 0)) } ∧ φ' st.length = some (.blk w.heap.size) := by
  have hg := hs.good.new (.cells v.cells T (0, 0))
  obtain ⟨h1, h2⟩ := hs.push (p := .blk w.heap.size) (o := .box T cs) (r := bx w.heap.size T v.cells.toList) (w' := { w with heap := w.heap.push (.cells v.cells T (0, 0)) }) (by simpa using hg)
    ⟨w.heap.size, v.cells.toList, more_self _ _ _, rfl, hr.mono (Mem.le.refl m) (le_more (hs.dom _ (Nat.le_refl _))), hc⟩
  exact ⟨_, _, h2, h1, more_self _ _ _⟩

theorem acts_box {T : TypeId} {x : Operand} {r : AR} (hs : Sit E m φ μ st w) (h : EnvR m φ ρ a) (hx : sBox ρ st T x = some r) : Acts P E m φ st w a ⟨dst, .box T x, ty, pos, after, gd⟩ r := by
  unfold sBox at hx
  split at hx
  · rename_i v hv
    split at hx
    · rename_i hc
      cases hx
      obtain ⟨φ', μ', h1, h2, h3⟩ := box_sit (T := T) hs (cells_R (aval_R h hv)) hc
      refine ⟨.pointer (some ⟨w.heap.size, 0, none⟩), _, m, φ', μ', ?_, Mem.le.refl m, h1, h2, .bp h3⟩
      simp [execOp, Instr.box, run_newVar]
    · cases hx
  · cases hx

theorem acts_alloc {T : TypeId} {r : AR} (hs : Sit E m φ μ st w) (hx : sAlloc P st T = some r) : Acts P E m φ st w a ⟨dst, .alloc T, ty, pos, after, gd⟩ r := by
  unfold sAlloc at hx
  split at hx
  · rename_i cs hz
    cases hx
    unfold zeroP at hz
    split at hz
    · rename_i z hzz
      obtain ⟨hr, hc⟩ := ofCells_R (m := m) (φ := φ) hz
      obtain ⟨φ', μ', h1, h2, h3⟩ := box_sit (T := T) hs hr hc
      refine ⟨.pointer (some ⟨w.heap.size, 0, none⟩), _, m, φ', μ', ?_, Mem.le.refl m, h1, h2, .bp h3⟩
      cases hi : P.info? T with
      | none => simp [tz, hi] at hzz
      | some i =>
        simp [tz, hi] at hzz
        simp [execOp, Instr.alloc, zeroValue, typeInfo, hi, hzz, run_newVar]
    · cases hz
  · cases hx

/-- one of the store's things turns -/
theorem Sit.turn {w' : World} {i : Nat} {o o' : SO} {r r' : Res} (hs : Sit E m φ μ st w) (ho : st[i]? = some o) (hne : o ≠ .dead) {μ1 μ2 : Own} (hμ : μ = μ1 ++ ([r] ++ μ2))
    (hset : SR m φ 0 (st.set i o') (μ1 ++ ([r'] ++ μ2))) (hos : w'.os = w.os) (htape : w'.tape = w.tape) (hout : w'.output = w.output) (hsize : w.heap.size ≤ w'.heap.size)
    (hk : ∀ b, b < w.heap.size → r.foot ≠ some b → w'.heap[b]? = w.heap[b]?) (hc : ∀ b k v, r.foot = some b → m b k = some v → ∃ c T fr, w'.heap[b]? = some (.cells c T fr) ∧ c[k]? = some v) (hr : r'.holds w')
    (hf : ∀ b, r'.foot = some b → (r.foot = some b ∧ r.lim ≤ r'.lim) ∨ w.heap.size ≤ b) : ∃ μ', Sit E m φ μ' (st.set i o') w' ∧ Ext st (st.set i o') φ φ := by
  subst hμ
  have h1 : Hb.Good E w m (r :: (μ1 ++ μ2)) := hs.good.perm (by simp)
  have h2 := h1.turn hos htape hout hsize hk hc hr hf
  refine ⟨_, ⟨h2.perm (by simpa using List.perm_middle.symm), hset, fun id h => hs.dom id (by simpa using h)⟩, ⟨Le.refl φ, by simp, fun id h => ?_⟩⟩
  rw [List.getElem?_set]
  split
  · rename_i e
    subst e
    rw [ho] at h
    exact absurd (Option.some.inj h) hne
  · exact ⟨h, rfl⟩

theorem flatten_get {sz : Nat} : ∀ {vss : List (List Value)}, (∀ us ∈ vss, us.length = sz) → ∀ (i j : Nat), j < sz → vss.flatten[i * sz + j]? = (vss[i]?).bind fun us => us[j]?
  | [], _, i, j, _ => by simp
  | us :: vss, h, i, j, hj => by
    have h0 := h us List.mem_cons_self
    cases i with
    | zero => simp only [Nat.zero_mul, Nat.zero_add, List.flatten_cons]; rw [List.getElem?_append_left (by omega)]; simp
    | succ i =>
      rw [List.flatten_cons, List.getElem?_append_right (by rw [Nat.succ_mul]; omega), h0]
      have := flatten_get (vss := vss) (fun us hu => h us (List.mem_cons_of_mem _ hu)) i j hj
      rw [show (i + 1) * sz + j - sz = i * sz + j by rw [Nat.succ_mul]; omega, this]
      simp
theorem flatten_set_length : ∀ {vss : List (List Value)} {i : Nat} {vs us : List Value}, vss[i]? = some vs → us.length = vs.length → (vss.set i us).flatten.length = vss.flatten.length
  | [], i, vs, us, h, _ => by simp at h
  | x :: vss, i, vs, us, h, hl => by
    cases i with
    | zero => simp at h; subst h; simp [hl]
    | succ i => simp only [List.set_cons_succ, List.flatten_cons, List.length_append]; rw [flatten_set_length (by simpa using h) hl]

theorem acts_store {T : TypeId} {x y : Operand} {r : AR} (hs : Sit E m φ μ st w) (h : EnvR m φ ρ a) (hx : sStore P ρ st T x y = some r) : Acts P E m φ st w a ⟨dst, .store T x y, ty, pos, after, gd⟩ r := by
  unfold sStore at hx
  split at hx
  · rename_i ag k p v ht hp hv
    split at hx
    · rename_i hb
      rw [Bool.and_eq_true] at hb
      have hk := Nat.eq_of_beq_eq_true hb.1
      cases hst : storeS st k v p with
      | none => simp [hst] at hx
      | some st' =>
        simp only [hst, Option.map_some, Option.some.injEq] at hx
        subst hx
        unfold storeS at hst
        split at hst
        · rename_i id off
          split at hst
          · rename_i T' cs ho
            split at hst
            · rename_i hle
              cases hst
              have hle' := Nat.le_of_ble_eq_true hle
              have hr := aval_R h hp
              have hrv := aval_R h hv
              have hcl := cells_R hrv
              generalize he : a.eval x = ev at hr
              cases hr with
              | @bp _ _ _ b hφ =>
                obtain ⟨μ1, rs, μ2, h1, h2, h3⟩ := hs.sto.get ho
                obtain ⟨b', vs, h4, h5, h6, h7⟩ := h2
                rw [Nat.zero_add, hφ] at h4
                cases h4
                subst h5
                have hb2 : w.heap[b]? = some (.cells vs.toArray T' (0, 0)) := hs.good.own (r := bx b T' vs) (by rw [h1]; simp)
                have h1c : ∀ u ∈ (a.eval y).cells.toList, u.oneCell' = true := fun u hu => by
                  obtain ⟨i, hi⟩ := List.getElem?_of_mem hu
                  obtain ⟨c, hc⟩ : ∃ c, v.cells[i]? = some c := ⟨_, List.getElem?_eq_getElem (by have := hcl.1; have := (List.getElem?_eq_some_iff.1 hi).1; omega)⟩
                  exact (hcl.2 i c u hc hi).one (List.all_eq_true.1 hb.2 c (List.mem_of_getElem? hc))
                have hlen : off + (a.eval y).cells.toList.length ≤ vs.length := by rw [← hcl.1, ← h6.1]; omega
                have hstc := run_storeCells_at P b off T' (a.eval y).cells.toList 0 vs.toArray w hb2 (by simpa using hlen) h1c
                obtain ⟨μ', hsit, hext⟩ := hs.turn (w' := w.setRow b (Gw.upd vs off (a.eval y).cells.toList).toArray) (r' := bx b T' (Gw.upd vs off (a.eval y).cells.toList)) (o' := .box T' (updP cs off v.cells)) ho (by simp) h1
                  (h3 (Mem.le.refl m) (Le.refl φ) (fun _ _ => rfl) ⟨b, _, by rw [Nat.zero_add]; exact hφ, rfl, updP_R h6 hcl, updP_all h7 hb.2⟩) rfl rfl rfl (by simp [World.setRow])
                  (fun b' _ hne => setRow_other w b b' _ (fun e => hne (by simp [Res.foot, e])))
                  (fun b' o u hf hm => by
                    have := (hs.good.feet (bx b T' vs) (by rw [h1]; simp) b' hf).2 o (Nat.zero_le _)
                    rw [this] at hm; cases hm)
                  (setRow_heap w b _ _ T' (0, 0) hb2) (fun b' e => .inl ⟨e, Nat.le_refl _⟩)
                refine ⟨_, m, φ, μ', ?_, Mem.le.refl m, hext, hsit⟩
                unfold tk at ht
                split at ht
                · rename_i dd ii hdd hii
                  simp only [Option.some.injEq, Prod.mk.injEq] at ht
                  have hs2 : (a.eval y).cells.size = ii.size := by rw [ht.2, ← hk, hcl.1]; simp
                  simp only [Nat.add_zero] at hstc
                  simp [execOp, Instr.storeAt, he, Instr.sureAddr, storeVar, sizeOf, typeInfo, hii, hs2, hstc, Gw.upd]
                · cases ht
            · cases hst
          · cases hst
        · rename_i id len i off
          split at hst
          · rename_i t sz xs ho
            split at hst
            · rename_i x0 hlen hx0
              split at hst
              · rename_i hbb
                cases hst
                rw [Bool.and_eq_true] at hbb
                have hle' := Nat.le_of_ble_eq_true hbb.1
                have hel := Nat.eq_of_beq_eq_true hbb.2
                have hr := aval_R h hp
                have hrv := aval_R h hv
                have hcl := cells_R hrv
                generalize he : a.eval x = ev at hr
                cases hr with
                | @rp _ _ _ _ _ n' sz' sv v' hφ hle hvv hpp =>
                  obtain ⟨μ1, rs, μ2, h1, h2, h3⟩ := hs.sto.get ho
                  obtain ⟨ad, cap, vss, h4, h5, hsz, h6⟩ := h2
                  rw [Nat.zero_add, hφ] at h4
                  cases h4
                  subst h5
                  obtain ⟨b, cap', e1, rfl⟩ := hvv (Nat.eq_of_beq_eq_true hlen)
                  cases e1
                  have hown : w.ownsRow 0 t sz (.slice (some ⟨b, 0, none⟩) xs.length cap) xs.length vss.flatten := hs.good.own (r := .row false (.slice (some ⟨b, 0, none⟩) xs.length cap) t sz xs.length vss.flatten) (by rw [h1]; simp)
                  obtain ⟨cur, hheap, hnc, hcm, hcs, htake⟩ : ∃ cur, w.heap[b]? = some (.cells cur t (0, 0)) ∧ xs.length ≤ cap ∧ cap ≤ maxLen ∧ cur.size = cap * sz ∧ cur.toList.take (xs.length * sz) = vss.flatten := by
                    rcases hown.2 with ⟨e2, _⟩ | ⟨g, cap2, cur, e2, _, q1, q2, q3, q4, q5⟩
                    · cases e2
                    · cases e2; exact ⟨cur, q1, q2, q3, q4, q5⟩
                  have hilt := (List.getElem?_eq_some_iff.1 hx0).1
                  obtain ⟨vs, hvs⟩ : ∃ vs, vss[i]? = some vs := ⟨_, List.getElem?_eq_getElem (by have := h6.1; omega)⟩
                  obtain ⟨q1, q2, q3, q4⟩ := h6.2 i x0 vs hx0 hvs
                  have hvl : (a.eval y).cells.toList.length = k := by rw [← hcl.1]; exact hk
                  have hvl' : (a.eval y).cells.size = k := by simpa using hvl
                  have h1c : ∀ u ∈ (a.eval y).cells.toList, u.oneCell' = true := fun u hu => by
                    obtain ⟨i, hi⟩ := List.getElem?_of_mem hu
                    obtain ⟨c, hc⟩ : ∃ c, v.cells[i]? = some c := ⟨_, List.getElem?_eq_getElem (by have := hcl.1; have := (List.getElem?_eq_some_iff.1 hi).1; omega)⟩
                    exact (hcl.2 i c u hc hi).one (List.all_eq_true.1 hb.2 c (List.mem_of_getElem? hc))
                  have hisz : (i + 1) * sz ≤ xs.length * sz := Nat.mul_le_mul_right _ hilt
                  have hisz2 : xs.length * sz ≤ cap * sz := Nat.mul_le_mul_right _ hnc
                  rw [Nat.succ_mul] at hisz
                  have hplace : i * sz + off + k ≤ cur.size := by rw [hcs]; omega
                  have hstc := run_storeCells_at P b (i * sz + off) t (a.eval y).cells.toList 0 cur w hheap (by rw [hvl]; omega) h1c
                  -- what the row holds then
                  have hflat : Gw.upd vss.flatten (i * sz + off) (a.eval y).cells.toList = (vss.set i (Gw.upd vs off (a.eval y).cells.toList)).flatten := by
                    have hfl := h6.flat
                    have hupl : (Gw.upd vs off (a.eval y).cells.toList).length = sz := by rw [Gw.upd_length (by omega)]; exact q2
                    have hrow' : RowR m φ sz xs vss := h6
                    apply List.ext_getElem?
                    intro j
                    have hlen2 : (vss.set i (Gw.upd vs off (a.eval y).cells.toList)).flatten.length = vss.flatten.length := flatten_set_length hvs (by rw [hupl, q2])
                    by_cases hj : j < vss.flatten.length
                    · rw [hfl] at hj
                      have hdm : j / sz * sz + j % sz = j := by rw [Nat.mul_comm]; exact Nat.div_add_mod j sz
                      have hmod := Nat.mod_lt j hsz
                      have hdiv : j / sz < vss.length := by rw [← h6.1]; exact Nat.div_lt_of_lt_mul (by rw [Nat.mul_comm]; exact hj)
                      have e3 := flatten_get (sz := sz) (vss := vss.set i (Gw.upd vs off (a.eval y).cells.toList)) (fun us hus => by
                        rcases List.mem_or_eq_of_mem_set hus with h' | h'
                        · obtain ⟨i', hi'⟩ := List.getElem?_of_mem h'
                          obtain ⟨x', hx'⟩ : ∃ x', xs[i']? = some x' := ⟨_, List.getElem?_eq_getElem (by have := h6.1; have := (List.getElem?_eq_some_iff.1 hi').1; omega)⟩
                          exact (h6.2 i' x' us hx' hi').2.1
                        · rw [h']; exact hupl) (j / sz) (j % sz) hmod
                      have e4 := flatten_get (sz := sz) (vss := vss) (fun us hus => by
                        obtain ⟨i', hi'⟩ := List.getElem?_of_mem hus
                        obtain ⟨x', hx'⟩ : ∃ x', xs[i']? = some x' := ⟨_, List.getElem?_eq_getElem (by have := h6.1; have := (List.getElem?_eq_some_iff.1 hi').1; omega)⟩
                        exact (h6.2 i' x' us hx' hi').2.1) (j / sz) (j % sz) hmod
                      rw [hdm] at e3 e4
                      rw [e3, Gw.upd_get (by rw [hfl]; omega), List.getElem?_set]
                      by_cases hij : i = j / sz
                      · subst hij
                        rw [if_pos rfl, if_pos hdiv]
                        simp only [Option.bind_some]
                        rw [Gw.upd_get (by omega)]
                        rw [e4, hvs]
                        simp only [Option.bind_some]
                        have hc1 : (j < j / sz * sz + off) ↔ (j % sz < off) := by omega
                        have hc2 : (j < j / sz * sz + off + (a.eval y).cells.toList.length) ↔ (j % sz < off + (a.eval y).cells.toList.length) := by omega
                        have hc3 : j - (j / sz * sz + off) = j % sz - off := by omega
                        simp only [hc1, hc2, hc3]
                      · rw [if_neg hij]
                        have hne : ¬ (i * sz + off ≤ j ∧ j < i * sz + off + (a.eval y).cells.toList.length) := fun ⟨g1, g2⟩ => by
                          apply hij
                          have : i * sz ≤ j := by omega
                          have h7 : j < (i + 1) * sz := by rw [Nat.succ_mul]; omega
                          exact (Nat.div_eq_of_lt_le (by omega) h7).symm
                        by_cases g1 : j < i * sz + off
                        · rw [if_pos g1, e4]
                        · rw [if_neg g1, if_neg (fun g2 => hne ⟨by omega, g2⟩), e4]
                    · rw [List.getElem?_eq_none_iff.2 (by rw [Gw.upd_length (by rw [hfl]; omega)]; omega), List.getElem?_eq_none_iff.2 (by rw [hlen2]; omega)]
                  have hown' : (w.setRow b (cur.toList.take (i * sz + off) ++ (a.eval y).cells.toList ++ cur.toList.drop (i * sz + off + (a.eval y).cells.toList.length)).toArray).ownsRow 0 t sz (.slice (some ⟨b, 0, none⟩) xs.length cap) xs.length (vss.set i (Gw.upd vs off (a.eval y).cells.toList)).flatten := by
                    rw [← hflat]
                    refine ⟨by rw [Gw.upd_length (by rw [h6.flat]; omega)]; exact h6.flat, .inr ⟨b, cap, _, rfl, Nat.zero_le _, setRow_heap w b cur _ t _ hheap, hnc, hcm, ?_, ?_⟩⟩
                    · simp only [List.size_toArray, List.length_append, List.length_take, List.length_drop, Array.length_toList]
                      omega
                    · rw [List.toList_toArray]
                      have e5 : cur.toList.take (i * sz + off) ++ (a.eval y).cells.toList ++ cur.toList.drop (i * sz + off + (a.eval y).cells.toList.length) = Gw.upd cur.toList (i * sz + off) (a.eval y).cells.toList := by simp [Gw.upd]
                      rw [e5, ← htake]
                      apply List.ext_getElem?
                      intro j
                      rw [List.getElem?_take]
                      rw [Gw.upd_get (by simp; omega), Gw.upd_get (by simp; omega)]
                      by_cases hj : j < xs.length * sz
                      · simp only [if_pos hj, List.getElem?_take]
                      · rw [if_neg hj, if_neg (by omega), if_neg (by omega), List.getElem?_take, if_neg hj]
                  have hrow2 : RowR m φ sz (xs.set i (putElem x0 v off)) (vss.set i (Gw.upd vs off (a.eval y).cells.toList)) := by
                    refine ⟨by simp [h6.1], fun j x' us hx' hu' => ?_⟩
                    rw [List.getElem?_set] at hx' hu'
                    by_cases hij : i = j
                    · subst hij
                      rw [if_pos rfl, if_pos hilt] at hx'
                      rw [if_pos rfl, if_pos (by have := h6.1; omega)] at hu'
                      cases hx'
                      cases hu'
                      have hpe : (putElem x0 v off).cells = updP x0.cells off v.cells ∨ ((putElem x0 v off).cells = v.cells ∧ x0.cells = [x0]) := by
                        unfold putElem
                        split
                        · exact .inl rfl
                        · rename_i hno
                          refine .inr ⟨rfl, ?_⟩
                          cases x0 <;> first | rfl | exact absurd rfl (hno _)
                      rcases hpe with e6 | ⟨e6, e7⟩
                      · refine ⟨hel, by rw [Gw.upd_length (by omega)]; exact q2, ?_, ?_⟩
                        · rw [e6]; exact updP_all q3 hb.2
                        · rw [e6]; exact updP_R q4 hcl
                      · have hs1 : sz = 1 := by rw [e7] at q1; simpa using q1.symm
                        have hk1 : k = 1 := by rw [e6] at hel; omega
                        have ho0 : off = 0 := by rw [e7] at hle'; simp at hle'; omega
                        have e8 : Gw.upd vs off (a.eval y).cells.toList = (a.eval y).cells.toList := by
                          subst ho0
                          unfold Gw.upd
                          rw [List.drop_eq_nil_of_le (by omega)]
                          simp
                        rw [e6, e8]
                        exact ⟨by omega, by omega, hb.2, hcl⟩
                    · rw [if_neg hij] at hx' hu'
                      exact h6.2 j x' us hx' hu'
                  obtain ⟨μ', hsit, hext⟩ := hs.turn (w' := w.setRow b (cur.toList.take (i * sz + off) ++ (a.eval y).cells.toList ++ cur.toList.drop (i * sz + off + (a.eval y).cells.toList.length)).toArray) (r' := .row false (.slice (some ⟨b, 0, none⟩) xs.length cap) t sz xs.length (vss.set i (Gw.upd vs off (a.eval y).cells.toList)).flatten) (o' := .row false t sz (xs.set i (putElem x0 v off))) ho (by simp) h1
                    (h3 (Mem.le.refl m) (Le.refl φ) (fun _ _ => rfl) ⟨some ⟨b, 0, none⟩, cap, _, by rw [Nat.zero_add, List.length_set]; exact hφ, by rw [List.length_set], hsz, hrow2⟩) rfl rfl rfl (by simp [World.setRow])
                    (fun b' _ hne => setRow_other w b b' _ (fun e => hne (by simp [Res.foot, Value.ownBlock, e])))
                    (fun b' o u hf hm => by
                      have := (hs.good.feet (.row false (.slice (some ⟨b, 0, none⟩) xs.length cap) t sz xs.length vss.flatten) (by rw [h1]; simp) b' hf).2 o (by simp [Res.lim])
                      rw [this] at hm; cases hm)
                    hown' (fun b' e => .inl ⟨e, Nat.le_refl _⟩)
                  refine ⟨_, m, φ, μ', ?_, Mem.le.refl m, hext, hsit⟩
                  unfold tk at ht
                  split at ht
                  · rename_i dd ii hdd hii
                    simp only [Option.some.injEq, Prod.mk.injEq] at ht
                    have hs2 : (a.eval y).cells.size = ii.size := by rw [ht.2, ← hk, hcl.1]; simp
                    simp only [Nat.add_zero] at hstc
                    simp [execOp, Instr.storeAt, he, Instr.sureAddr, storeVar, sizeOf, typeInfo, hii, hs2, hstc]
                  · cases ht
              · cases hst
            · cases hst
          · cases hst
        · cases hst
    · cases hx
  · cases hx

theorem acts_panic {x : Operand} {r : AR} (hs : Sit E m φ μ st w) (h : EnvR m φ ρ a) (hx : sPanic ρ st x = some r) : Acts P E m φ st w a ⟨dst, .panic x, ty, pos, after, gd⟩ r := by
  unfold sPanic at hx
  split at hx
  · rename_i t v hv
    cases hx
    have hr := aval_R h hv
    generalize he : a.eval x = ev at hr
    have hr' := hr
    cases hr with
    | ifc hi =>
      exact ⟨_, w, m, φ, μ, by simp [execOp, he, Instr.panic, goPanic, Sem.run, Bind.bind, Sem.bind], Mem.le.refl m, Ext.refl st φ, hs, hr'⟩
  · cases hx

/-- a row is known for good -/
theorem pubRow_ok {id len : Nat} {x : PV} {st' : Sto} {v : Value} (hs : Sit E m φ μ st w) (h : pubRow id len st = (x, st')) (hr : R m φ (.ms id len) v) : ∃ m' μ', Mem.le m m' ∧ Ext st st' φ φ ∧ Sit E m' φ μ' st' w ∧ R m' φ x v := by
  have same : (x, st') = (.ms id len, st) → ∃ m' μ', Mem.le m m' ∧ Ext st st' φ φ ∧ Sit E m' φ μ' st' w ∧ R m' φ x v := fun e => by
    cases e
    exact ⟨m, μ, Mem.le.refl m, Ext.refl _ _, hs, hr⟩
  unfold pubRow at h
  split at h
  · rename_i p e sz xs ho
    split at h
    · rename_i hb
      rw [Bool.and_eq_true] at hb
      cases h
      cases hr with
      | @ms _ _ _ n sz' sv _ hφ hle hv hsl =>
        obtain ⟨μ1, rs, μ2, h1, h2, h3⟩ := hs.sto.get ho
        obtain ⟨ad, cap, vss, h4, h5, hsz, h6⟩ := h2
        rw [Nat.zero_add, hφ] at h4
        cases h4
        subst h5
        obtain rfl := hv (Nat.eq_of_beq_eq_true hb.1)
        have hgood : Hb.Good E w m (.row p (.slice ad xs.length cap) e sz xs.length vss.flatten :: (μ1 ++ μ2)) := hs.good.perm (by rw [h1]; simp)
        have hown : w.ownsRow 0 e sz (.slice ad xs.length cap) xs.length vss.flatten := hgood.own (r := .row p (.slice ad xs.length cap) e sz xs.length vss.flatten) (by simp)
        have hext : Ext st (st.set id (.row true e sz xs)) φ φ := ⟨Le.refl φ, by simp, fun j hj => by
          rw [List.getElem?_set]
          split
          · rename_i e'; subst e'; rw [ho] at hj; cases hj
          · exact ⟨hj, rfl⟩⟩
        -- the elements
        have hel : ∀ (i : Nat) x, xs[i]? = some x → x.cells.length = sz ∧ (vss.getD i []).length = sz ∧ x.cells.all cell = true ∧ Rl m noPh x.cells (vss.getD i []) := fun i x hx => by
          obtain ⟨vs, hvs⟩ : ∃ vs, vss[i]? = some vs := ⟨_, List.getElem?_eq_getElem (by have := h6.1; have := (List.getElem?_eq_some_iff.1 hx).1; omega)⟩
          obtain ⟨q1, q2, q3, q4⟩ := h6.2 i x vs hx hvs
          have e' : vss.getD i [] = vs := by simp [List.getD_eq_getElem?_getD, hvs]
          rw [e']
          refine ⟨q1, q2, q3, ?_⟩
          have hpx := List.all_eq_true.1 hb.2 x (List.mem_of_getElem? hx)
          refine ⟨q4.1, fun j c u hc hu => ?_⟩
          have : pur 6 c = true := by
            unfold PV.cells at hc
            split at hc
            · rename_i cs
              simp only [pur] at hpx
              have h7 := List.all_eq_true.1 hpx c (List.mem_of_getElem? hc)
              exact pur_up h7
            · cases j with
              | zero => simp at hc; subst hc; exact hpx
              | succ j => simp at hc
          exact R.pure 6 this (q4.2 j c u hc hu)
        rcases hown.2 with ⟨hv0, h0⟩ | ⟨b, cap', cur, hv', _, hheap, hnc, hcm, hcs, htake⟩
        · have hxs : xs = [] := List.eq_nil_of_length_eq_zero h0
          subst hxs
          refine ⟨m, _, Mem.le.refl m, hext, ⟨?_, h3 (Mem.le.refl m) (Le.refl φ) (fun _ _ => rfl) ⟨ad, cap, vss, by rw [Nat.zero_add]; exact hφ, rfl, hsz, h6⟩, fun j hj => hs.dom j (by simpa using hj)⟩, ?_⟩
          · have := hgood.turn (w' := w) (r' := .row true (.slice ad [].length cap) e sz [].length vss.flatten) rfl rfl rfl (Nat.le_refl _) (fun _ _ _ => rfl) (fun b o u hf hm => hgood.sub b o u hm) hown (fun b hb => by
              simp only [List.length_nil] at hb hv0
              rw [hv0] at hb
              simp [Res.foot, Value.ownBlock] at hb)
            exact this.perm (by simpa using List.perm_middle.symm)
          · cases hv0
            exact .sl (xs := []) 0 0 (fun _ => []) (fun e => absurd rfl e) (Nat.le_refl _) (by decide) (fun e => by cases e) (fun i x hx => by simp at hx) (fun i x j c u hx => by simp at hx)
        · cases hv'
          have hfl := h6.flat
          have hold : ∀ (o : Nat) u, vss.flatten[o]? = some u → ∃ c T fr, w.heap[b]? = some (.cells c T fr) ∧ c[o]? = some u := fun o u ho' => by
            refine ⟨cur, e, (0, 0), hheap, ?_⟩
            rw [← htake, List.getElem?_take] at ho'
            split at ho'
            · simpa using ho'
            · cases ho'
          have hlim : vss.flatten.length ≤ (Res.row true (.slice (some ⟨b, 0, none⟩) xs.length cap) e sz xs.length vss.flatten).lim := by simp [Res.lim, hfl]
          obtain ⟨hg2, hle2⟩ := hgood.tell (b := b) (cs := vss.flatten) rfl hold (μ' := .row true (.slice (some ⟨b, 0, none⟩) xs.length cap) e sz xs.length vss.flatten :: (μ1 ++ μ2)) (fun s hs' => by
              rcases List.mem_cons.1 hs' with rfl | hs'
              · refine .inr ⟨hown, rfl, ?_, hlim⟩
                cases p <;> simp [Res.lim]
              · exact .inl hs') (List.pairwise_cons.2 ⟨(List.pairwise_cons.1 hgood.apart).1, (List.pairwise_cons.1 hgood.apart).2⟩)
          refine ⟨_, _, hle2, hext, ⟨hg2.perm (by simpa using List.perm_middle.symm), h3 hle2 (Le.refl φ) (fun _ _ => rfl) ⟨_, cap, vss, by rw [Nat.zero_add]; exact hφ, rfl, hsz, h6.mono hle2 (Le.refl φ)⟩, fun j hj => hs.dom j (by simpa using hj)⟩, ?_⟩
          refine .sl b 0 (fun i => vss.getD i []) (fun _ => rfl) hnc hcm (fun e => by cases e) (fun i x hx => ?_) (fun i x j c u hx hc hu => ?_)
          · obtain ⟨q1, q2, q3, q4⟩ := hel i x hx
            refine ⟨q1, q2, fun j u hu => ?_, q3⟩
            have hj : j < sz := by have := (List.getElem?_eq_some_iff.1 hu).1; omega
            obtain ⟨vs, hvs⟩ : ∃ vs, vss[i]? = some vs := ⟨_, List.getElem?_eq_getElem (by have := h6.1; have := (List.getElem?_eq_some_iff.1 hx).1; omega)⟩
            have e' : vss.getD i [] = vs := by simp [List.getD_eq_getElem?_getD, hvs]
            rw [e'] at hu
            rw [Nat.zero_add]
            exact Mem.add_get (by rw [h6.at hvs j hj]; exact hu)
          · obtain ⟨q1, q2, q3, q4⟩ := hel i x hx
            exact (q4.2 j c u hc hu).mono hle2 (Le.refl _)
    · exact same h.symm
  · exact same h.symm

end
end Go.Am

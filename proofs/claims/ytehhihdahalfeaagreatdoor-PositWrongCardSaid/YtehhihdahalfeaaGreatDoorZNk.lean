/-
  What is opened by names and closed again: plain lemmas. No program in sight.
-/
import Derived.Test.YtehhihdahalfeaaGreatDoorZNl
import Derived.Test.YtehhihdahalfeaaGreatDoorZUb
set_option linter.unusedVariables false
set_option linter.unusedSimpArgs false
set_option linter.unnecessarySimpa false
namespace Go.Proofs.YtehhihdahalfeaaGreatDoor
open Go Go.Am Go.Gw
/-- what is opened, one behind the other -/
def opT : List (List UInt8 × Tm) → List Tm → List (List UInt8) → Option (List (List UInt8 × Tm))
  | don, [], _ => some don
  | _, _ :: _, [] => none
  | don, s :: r, n :: ns => match InstF s (don.map fun x => cn x.1) with
    | some x => opT (don ++ [(n, x)]) r ns
    | none => none
def OpenF (t : Tm) (kind : Int) (ns : List (List UInt8)) : Option (List (List UInt8 × Tm) × Tm) := match SplitF t kind ns.length with
  | none => none
  | some (ss, body) => match opT [] ss ns with
    | none => none
    | some l => match InstF body (l.map fun x => cn x.1) with
      | none => none
      | some b => some (l, b)
def AbsF (t : Tm) (ns : List (List UInt8)) : Option Tm := if anyT t = true ∧ ns.length ≤ 1048576 then madeF (absF ns) t else none
/-- binders over a body, the last local first -/
def closeR (kind : Int) : List (List UInt8 × Tm) → Tm → Option Tm
  | [], out => some out
  | x :: r, out => match AbsF out [x.1] with
    | none => none
    | some b => if anyT x.2 = true then closeR kind r (.mk kind 0 [] [] [x.2, b]) else none
def CloseF (kind : Int) (body : Tm) (l : List (List UInt8 × Tm)) : Option Tm := if binderB kind = true ∧ anyT body = true then (match closeR kind l.reverse body with
  | none => none
  | some o => if anyT o = true then some o else none) else none
theorem findS_one (s c : List UInt8) : findS s [c] 0 = if s = c then 0 else -1 := by
  simp only [findS]
  rfl
theorem absF_one (c : List UInt8) : absF [c] = abF c := by
  funext t d
  by_cases h : t.kind = 3 ∧ t.name = c
  · have e : findS t.name [c] 0 = 0 := by rw [findS_one, if_pos h.2]
    rw [absF_on ⟨h.1, by omega⟩, e]
    unfold abF
    rw [if_pos h]
    simp
  · rw [abF_mov h]
    refine absF_off fun e => h ⟨e.1, ?_⟩
    have := e.2
    rw [findS_one] at this
    split at this
    · assumption
    · omega
theorem plF_siz {put : Tm → Int → Option Tm} (hs : ∀ t d x, put t d = some x → sizT x ≤ sizT t) {t : Tm} {d : Int} (h : sizT t ≤ 2000) : sizT (plF put t d) ≤ sizT t := (bldF_pl hs t d 2000 (by omega) h).2.2
theorem AbsF_one {t : Tm} (c : List UInt8) (h : anyT t = true) : AbsF t [c] = some (plF (abF c) t 0) := by
  unfold AbsF
  rw [if_pos ⟨h, by simp⟩, absF_one]
  exact madeF_pl (abF_siz c) (any_siz h)
theorem InstF_cn {t : Tm} {ns : List (List UInt8)} (h : anyT t = true) (hl : ns.length ≤ 1048576) (hn : ∀ c ∈ ns, nameF c = true) : InstF t (ns.map cn) = some (plF (opF ns) t 0) := by
  have hall : (ns.map cn).all anyT = true := by
    rw [List.all_eq_true]
    intro x hx
    obtain ⟨c, hc, rfl⟩ := List.mem_map.1 hx
    exact anyT_cn (hn c hc)
  unfold InstF
  rw [if_pos ⟨h, by simpa using hl, hall⟩, insF_cn]
  exact madeF_pl (opF_siz ns) (any_siz h)
/- binders -/
def bindL (kind : Int) (ss : List Tm) (body : Tm) : Tm := ss.foldr (fun s b => .mk kind 0 [] [] [s, b]) body
theorem bindL_cons (kind : Int) (s : Tm) (r : List Tm) (body : Tm) : bindL kind (s :: r) body = .mk kind 0 [] [] [s, bindL kind r body] := rfl
theorem bindL_snoc (kind : Int) (r : List Tm) (s body : Tm) : bindL kind (r ++ [s]) body = bindL kind r (.mk kind 0 [] [] [s, body]) := by simp [bindL]
theorem splitF_bind {kind : Int} (hk : kind = 6 ∨ kind = 5) : ∀ {n : Nat} {t : Tm} {ss : List Tm} {body : Tm} {p kk : Int}, allT t p kk = true → splitF kind n t = some (ss, body) → t = bindL kind ss body ∧ ss.length = n
  | 0, t, ss, body, p, kk, ha, h => by
    simp only [splitF, Option.some.injEq, Prod.mk.injEq] at h
    obtain ⟨rfl, rfl⟩ := h
    exact ⟨rfl, rfl⟩
  | n + 1, .mk k nn s ls ts, ss, body, p, kk, ha, h => by
    unfold splitF at h
    split at h
    · rename_i a b
      split at h
      · rename_i hkk
        subst hkk
        obtain ⟨_, _, hnd, -, hts⟩ := allT_parts ha
        obtain ⟨rfl, rfl, rfl⟩ := nodeT_deep hnd (by omega)
        simp only [allTs, Bool.and_eq_true] at hts
        cases hb : splitF k n b with
        | none => rw [hb] at h; cases h
        | some r =>
          obtain ⟨r1, r2⟩ := r
          rw [hb] at h
          simp only [Option.map_some, Option.some.injEq, Prod.mk.injEq] at h
          obtain ⟨rfl, rfl⟩ := h
          obtain ⟨h1, h2⟩ := splitF_bind hk hts.2.1 hb
          exact ⟨by rw [bindL_cons, ← h1], by simp [h2]⟩
      · cases h
    · cases h
theorem allT_bindL {kind : Int} (hk : kind = 6 ∨ kind = 5) {s : Tm} {r : List Tm} {body : Tm} {p kk : Int} : allT (bindL kind (s :: r) body) p kk = true ↔ allT s p kk = true ∧ allT (bindL kind r body) p (kk + 1) = true := by
  rw [bindL_cons]
  have e1 : innerF (shBinds kind) 0 kk = kk := by rcases hk with rfl | rfl <;> simp [innerF, shBinds]
  have e2 : innerF (shBinds kind) (0 + 1) kk = kk + 1 := by rcases hk with rfl | rfl <;> simp [innerF, shBinds]
  constructor
  · intro h
    obtain ⟨_, _, _, -, hts⟩ := allT_parts h
    simp only [allTs, Bool.and_eq_true, e1, e2] at hts
    exact ⟨hts.1, hts.2.1⟩
  · rintro ⟨h1, h2⟩
    refine allT_intro (by omega) (by rcases hk with rfl | rfl <;> simp [shArgs]) (by rcases hk with rfl | rfl <;> simp [nodeT, shLevels]) (by simp [rightLs]) ?_
    simp only [allTs, e1, e2, h1, h2, Bool.and_self]
theorem sizT_bindL {kind : Int} {s : Tm} {r : List Tm} {body : Tm} : sizT (bindL kind (s :: r) body) = 1 + sizT s + sizT (bindL kind r body) := by
  rw [bindL_cons]
  simp only [sizT, sizTs, sizeLs]
  omega
theorem consts_bindL {kind : Int} (hk : kind = 6 ∨ kind = 5) {s : Tm} {r : List Tm} {body : Tm} : constsT (bindL kind (s :: r) body) = constsT s ++ constsT (bindL kind r body) := by
  rw [bindL_cons, constsT, if_neg (by omega)]
  simp [constsTs]
/-- types and body that stand behind one another -/
theorem bindL_all {kind : Int} (hk : kind = 6 ∨ kind = 5) {p : Int} {c : List UInt8} : ∀ {ss : List Tm} {body : Tm} {kk : Int}, allT (bindL kind ss body) p kk = true → sizT (bindL kind ss body) ≤ 2000 →
    (allT body p (kk + ss.length) = true ∧ sizT body ≤ 2000 ∧ (c ∉ constsT (bindL kind ss body) → c ∉ constsT body)) ∧ ∀ (j : Nat) (s : Tm), ss[j]? = some s → allT s p (kk + j) = true ∧ sizT s ≤ 2000 ∧ (c ∉ constsT (bindL kind ss body) → c ∉ constsT s)
  | [], body, kk, ha, hs => by
    refine ⟨⟨?_, hs, fun h => h⟩, fun j s h => by simp at h⟩
    simpa [bindL] using ha
  | s :: r, body, kk, ha, hs => by
    obtain ⟨h1, h2⟩ := (allT_bindL hk).1 ha
    rw [sizT_bindL] at hs
    obtain ⟨⟨i1, i2, i3⟩, i4⟩ := bindL_all hk (c := c) h2 (by omega)
    rw [consts_bindL hk, List.mem_append, not_or]
    refine ⟨⟨?_, i2, fun h => i3 h.2⟩, fun j x hj => ?_⟩
    · rw [show kk + ((s :: r).length : Int) = kk + 1 + (r.length : Int) by simp; omega]
      exact i1
    · cases j with
      | zero =>
        simp at hj
        subst hj
        exact ⟨by simpa using h1, by omega, fun h => h.1⟩
      | succ j =>
        obtain ⟨q1, q2, q3⟩ := i4 j x (by simpa using hj)
        refine ⟨?_, q2, fun h => q3 h.2⟩
        rw [show kk + ((j + 1 : Nat) : Int) = kk + 1 + (j : Int) by omega]
        exact q1
/- what is opened -/
def opL : List (List UInt8) → List (List UInt8) → List Tm → List (List UInt8 × Tm)
  | don, n :: ns, s :: ss => (n, plF (opF don) s 0) :: opL (don ++ [n]) ns ss
  | _, _, _ => []
theorem opL_snoc : ∀ {don ns : List (List UInt8)} {ss : List Tm} {n : List UInt8} {s : Tm}, ns.length = ss.length → opL don (ns ++ [n]) (ss ++ [s]) = opL don ns ss ++ [(n, plF (opF (don ++ ns)) s 0)]
  | don, [], [], n, s, _ => by simp [opL]
  | don, [], _ :: _, n, s, h => by simp at h
  | don, _ :: _, [], n, s, h => by simp at h
  | don, m :: ns, x :: ss, n, s, h => by
    simp only [List.cons_append, opL]
    rw [opL_snoc (by simpa using h)]
    simp
theorem opL_length : ∀ {don ns : List (List UInt8)} {ss : List Tm}, ns.length = ss.length → (opL don ns ss).length = ss.length
  | don, [], [], _ => by simp [opL]
  | don, [], _ :: _, h => by simp at h
  | don, _ :: _, [], h => by simp at h
  | don, m :: ns, x :: ss, h => by
    simp only [opL, List.length_cons, opL_length (don := don ++ [m]) (ns := ns) (ss := ss) (by simpa using h)]
theorem opL_at : ∀ {don ns : List (List UInt8)} {ss : List Tm} {i : Nat} {n : List UInt8} {s : Tm}, ns[i]? = some n → ss[i]? = some s → (opL don ns ss)[i]? = some (n, plF (opF (don ++ ns.take i)) s 0)
  | don, [], ss, i, n, s, h1, h2 => by simp at h1
  | don, m :: ns, [], i, n, s, h1, h2 => by simp at h2
  | don, m :: ns, x :: ss, i, n, s, h1, h2 => by
    cases i with
    | zero => simp at h1 h2; subst h1; subst h2; simp [opL]
    | succ i =>
      simp only [opL, List.getElem?_cons_succ]
      rw [opL_at (don := don ++ [m]) (by simpa using h1) (by simpa using h2)]
      simp
theorem opL_names : ∀ {don ns : List (List UInt8)} {ss : List Tm}, ns.length = ss.length → (opL don ns ss).map (·.1) = ns
  | don, [], [], _ => by simp [opL]
  | don, [], _ :: _, h => by simp at h
  | don, _ :: _, [], h => by simp at h
  | don, m :: ns, x :: ss, h => by
    simp only [opL, List.map_cons]
    rw [opL_names (by simpa using h)]
theorem opT_eq : ∀ {ss : List Tm} {ns : List (List UInt8)} {don : List (List UInt8 × Tm)}, ns.length = ss.length → (∀ c ∈ ns, nameF c = true) → (∀ x ∈ don, nameF x.1 = true) → don.length + ns.length ≤ 1000000 → (∀ s ∈ ss, anyT s = true) → opT don ss ns = some (don ++ opL (don.map (·.1)) ns ss)
  | [], [], don, _, _, _, _, _ => by simp [opT, opL]
  | [], _ :: _, don, h, _, _, _, _ => by simp at h
  | _ :: _, [], don, h, _, _, _, _ => by simp at h
  | s :: ss, n :: ns, don, h, hn, hd, hl, ha => by
    have e : InstF s (don.map fun x => cn x.1) = some (plF (opF (don.map (·.1))) s 0) := by
      rw [show (don.map fun x => cn x.1) = (don.map (·.1)).map cn by rw [List.map_map]; rfl]
      refine InstF_cn (ha s (by simp)) (by simp at hl ⊢; omega) fun c hc => ?_
      obtain ⟨x, hx, rfl⟩ := List.mem_map.1 hc
      exact hd x hx
    simp only [opT, e]
    rw [opT_eq (by simpa using h) (fun c hc => hn c (by simp [hc])) (fun x hx => ?_) (by simp at hl ⊢; omega) (fun x hx => ha x (by simp [hx]))]
    · simp [opL]
    · rcases List.mem_append.1 hx with hx | hx
      · exact hd x hx
      · simp at hx
        subst hx
        exact hn n (by simp)
theorem plF_bind {kind : Int} (hk : kind = 6 ∨ kind = 5) (ns : List (List UInt8)) (s b : Tm) (d : Int) : plF (opF ns) (.mk kind 0 [] [] [s, b]) d = .mk kind 0 [] [] [plF (opF ns) s d, plF (opF ns) b (d + 1)] := by
  have e1 : innerF (shBinds kind) 0 d = d := by rcases hk with rfl | rfl <;> simp [innerF, shBinds]
  have e2 : innerF (shBinds kind) (0 + 1) d = d + 1 := by rcases hk with rfl | rfl <;> simp [innerF, shBinds]
  rw [plF, plN_node (opF_none (by simp only [Tm.kind]; omega)) (by simp [Tm.args])]
  simp only [plFs, e1, e2, Tm.kind]
/-- what was opened is closed again -/
theorem close_open {kind : Int} (hk : kind = 6 ∨ kind = 5) {K : Int} (hK0 : 0 ≤ K) : ∀ (q : Nat) {ns : List (List UInt8)} {ss : List Tm} {rest : Tm}, ns.length = q → ss.length = q → K + q ≤ 1125899906842000 → ns.Nodup → (∀ c ∈ ns, nameF c = true) → allT (bindL kind ss rest) 4 K = true → sizT (bindL kind ss rest) ≤ 2000 → (∀ c ∈ ns, c ∉ constsT (bindL kind ss rest)) →
    closeR kind (opL [] ns ss).reverse (plF (opF ns) rest 0) = some (bindL kind ss rest)
  | 0, ns, ss, rest, h1, h2, hK, hnd, hn, ha, hs, hc => by
    obtain rfl := List.eq_nil_of_length_eq_zero h1
    obtain rfl := List.eq_nil_of_length_eq_zero h2
    simp only [opL, List.reverse_nil, closeR, bindL, List.foldr_nil] at ha ⊢
    rw [op_nil rest 4 K 0 ha]
  | q + 1, ns, ss, rest, h1, h2, hK, hnd, hn, ha, hs, hc => by
    obtain ⟨ns', c, rfl⟩ : ∃ a b, ns = a ++ [b] := ⟨ns.dropLast, ns.getLast (by intro e; rw [e] at h1; simp at h1), (List.dropLast_concat_getLast _).symm⟩
    obtain ⟨ss', s, rfl⟩ : ∃ a b, ss = a ++ [b] := ⟨ss.dropLast, ss.getLast (by intro e; rw [e] at h2; simp at h2), (List.dropLast_concat_getLast _).symm⟩
    have l1 : ns'.length = q := by simpa using h1
    have l2 : ss'.length = q := by simpa using h2
    rw [List.nodup_append] at hnd
    have hcn : c ∉ ns' := fun h => hnd.2.2 c h c (by simp) rfl
    obtain ⟨⟨b1, b2, b3⟩, b4⟩ := bindL_all hk (c := c) ha hs
    obtain ⟨t1, t2, t3⟩ := b4 q s (by rw [List.getElem?_append_right (by omega), l2]; simp)
    have hcr : c ∉ constsT rest := b3 (hc c (by simp))
    have hout : anyT (plF (opF (ns' ++ [c])) rest 0) = true := by
      rw [anyT_iff]
      refine ⟨Nat.le_trans (plF_siz (opF_siz _) b2) b2, ?_⟩
      have := allT_op (ns := ns' ++ [c]) hn rest 4 K 0 (by rw [h1, ← h2]; simpa using b1) hK0 (by omega)
      exact allT_mono _ _ _ _ this (by omega)
    have hty : anyT (plF (opF ns') s 0) = true := by
      rw [anyT_iff]
      refine ⟨Nat.le_trans (plF_siz (opF_siz _) t2) t2, ?_⟩
      have := allT_op (ns := ns') (fun x hx => hn x (by simp [hx])) s 4 K 0 (by rw [l1]; simpa using t1) hK0 (by omega)
      exact allT_mono _ _ _ _ this (by omega)
    rw [opL_snoc (by omega), List.reverse_append]
    simp only [List.reverse_cons, List.reverse_nil, List.nil_append, List.cons_append, closeR]
    rw [AbsF_one c hout]
    simp only [hty, if_true]
    rw [ab_op hcn rest 4 _ 0 b1 hcr, Int.zero_add, bindL_snoc]
    have e := plF_bind hk ns' s rest 0
    rw [Int.zero_add] at e
    rw [← e]
    rw [bindL_snoc] at ha hs hc
    exact close_open hk hK0 q l1 l2 (by omega) hnd.1 (fun x hx => hn x (by simp [hx])) ha hs (fun x hx => hc x (by simp [hx]))
end Go.Proofs.YtehhihdahalfeaaGreatDoor

/-
  Names that a term has not: plain lemmas. No program in sight.
-/
import Derived.Test.YtehhihdahalfeaaGreatDoorZTy
import Derived.Lib.ItoaLen
import Derived.Lib.Strings
import Derived.Test.YtehhihdahalfeaaGreatDoorZTc
set_option linter.unusedVariables false
set_option linter.unusedSimpArgs false
set_option linter.unnecessarySimpa false
namespace Go.Proofs.YtehhihdahalfeaaGreatDoor
open Go Go.Gw
/- numbers as digits -/
def valD (l : List UInt8) : Nat := l.foldl (fun a c => a * 10 + (c.toNat - 48)) 0
theorem valD_snoc (l : List UInt8) (c : UInt8) : valD (l ++ [c]) = valD l * 10 + (c.toNat - 48) := by simp [valD]
theorem dig_toNat {u : Nat} (h : u < 10) : (UInt8.ofNat (48 + u)).toNat = 48 + u := by
  rw [UInt8.toNat_ofNat']
  omega
theorem dec_val : ∀ u : Nat, valD (Lib.decDigits u) = u
  | u => by
    rw [Lib.decDigits]
    split
    · rename_i h
      simp only [valD, List.foldl_cons, List.foldl_nil, dig_toNat h]
      omega
    · rename_i h
      rw [valD_snoc, dec_val (u / 10), dig_toNat (Nat.mod_lt _ (by omega))]
      omega
  termination_by u => u
  decreasing_by omega
theorem dec_inj {u v : Nat} (h : Lib.decDigits u = Lib.decDigits v) : u = v := by rw [← dec_val u, h, dec_val v]
def isDig (c : UInt8) : Bool := decide (48 ≤ c.toNat ∧ c.toNat ≤ 57)
theorem dec_dig : ∀ u : Nat, (Lib.decDigits u).all isDig = true
  | u => by
    rw [Lib.decDigits]
    split
    · rename_i h
      simp only [List.all_cons, List.all_nil, Bool.and_true, isDig, dig_toNat h]
      exact decide_eq_true (by omega)
    · rename_i h
      rw [List.all_append, dec_dig (u / 10)]
      have hd := dig_toNat (u := u % 10) (Nat.mod_lt _ (by omega))
      have hm : u % 10 < 10 := Nat.mod_lt _ (by omega)
      simp only [List.all_cons, List.all_nil, Bool.and_true, Bool.true_and, isDig]
      refine decide_eq_true ?_
      rw [hd]
      omega
  termination_by u => u
  decreasing_by omega
theorem itoa_nat (u : Nat) : Lib.itoa (u : Int) = Lib.decDigits u := by
  unfold Lib.itoa
  rw [if_neg (by omega)]
  rfl
theorem dec_ne (u : Nat) : Lib.decDigits u ≠ [] := by
  rw [Lib.decDigits]
  split <;> simp
/-- the top of names -/
def topF (m : Nat) : List UInt8 := 108 :: Lib.decDigits m
def underF (s p : List UInt8) : Bool := nameF s && (nameF p && (s == p || Lib.hasPrefix s (p ++ [46])))
theorem dig_split : ∀ {a b r q : List UInt8}, a.all isDig = true → b.all isDig = true → (r = [] ∨ ∃ r', r = 46 :: r') → (q = [] ∨ ∃ q', q = 46 :: q') → a ++ r = b ++ q → a = b
  | [], [], r, q, _, _, _, _, _ => rfl
  | [], y :: b, r, q, _, hb, hr, _, h => by
    simp only [List.all_cons, Bool.and_eq_true, isDig, decide_eq_true_eq] at hb
    rcases hr with rfl | ⟨r', rfl⟩
    · simp at h
    · simp only [List.nil_append, List.cons_append, List.cons.injEq] at h
      rw [← h.1] at hb
      exact absurd hb.1.1 (by decide)
  | x :: a, [], r, q, ha, _, _, hq, h => by
    simp only [List.all_cons, Bool.and_eq_true, isDig, decide_eq_true_eq] at ha
    rcases hq with rfl | ⟨q', rfl⟩
    · simp at h
    · simp only [List.nil_append, List.cons_append, List.cons.injEq] at h
      rw [h.1] at ha
      exact absurd ha.1.1 (by decide)
  | x :: a, y :: b, r, q, ha, hb, hr, hq, h => by
    simp only [List.all_cons, Bool.and_eq_true] at ha hb
    simp only [List.cons_append, List.cons.injEq] at h
    rw [h.1, dig_split ha.2 hb.2 hr hq h.2]
theorem under_form {s p : List UInt8} (h : underF s p = true) : ∃ r, s = p ++ r ∧ (r = [] ∨ ∃ r', r = 46 :: r') := by
  simp only [underF, Bool.and_eq_true, Bool.or_eq_true] at h
  obtain ⟨_, _, h | h⟩ := h
  · exact ⟨[], by simpa using h, .inl rfl⟩
  · unfold Lib.hasPrefix at h
    rw [List.isPrefixOf_iff_prefix] at h
    obtain ⟨r, hr⟩ := h
    exact ⟨46 :: r, by rw [← hr]; simp, .inr ⟨r, rfl⟩⟩
/-- at most one number's top is above a name -/
theorem under_one {s : List UInt8} {m k : Nat} (h1 : underF s (topF m) = true) (h2 : underF s (topF k) = true) : m = k := by
  obtain ⟨r, e1, hr⟩ := under_form h1
  obtain ⟨q, e2, hq⟩ := under_form h2
  have e : Lib.decDigits m ++ r = Lib.decDigits k ++ q := by
    rw [e1] at e2
    simpa [topF] using e2
  exact dec_inj (dig_split (dec_dig m) (dec_dig k) hr hq e)
section
open Classical
/-- how many names stand under a top from some number on -/
noncomputable def cntU (l : List (List UInt8)) (n : Nat) : Nat := l.countP fun s => decide (∃ m, n ≤ m ∧ underF s (topF m) = true)
theorem countP_lt {α : Type} {p q : α → Bool} (h : ∀ x, q x = true → p x = true) : ∀ {l : List α}, (∃ x ∈ l, p x = true ∧ q x = false) → l.countP q < l.countP p
  | [], hx => by obtain ⟨x, hx, _⟩ := hx; simp at hx
  | a :: r, hx => by
    have hle : r.countP q ≤ r.countP p := List.countP_mono_left fun x _ => h x
    obtain ⟨x, hm, h1, h2⟩ := hx
    rcases List.mem_cons.1 hm with rfl | hm
    · rw [List.countP_cons_of_pos h1, List.countP_cons_of_neg (by simp [h2])]
      omega
    · have ih := countP_lt h (l := r) ⟨x, hm, h1, h2⟩
      by_cases hq : q a = true
      · rw [List.countP_cons_of_pos hq, List.countP_cons_of_pos (h a hq)]
        omega
      · rw [List.countP_cons_of_neg hq]
        have : r.countP p ≤ (a :: r).countP p := (List.sublist_cons_self a r).countP_le
        omega
theorem cntU_step {l : List (List UInt8)} {n : Nat} (h : (l.any fun s => underF s (topF n)) = true) : cntU l (n + 1) < cntU l n := by
  unfold cntU
  refine countP_lt (fun x hx => ?_) ?_
  · obtain ⟨m, h1, h2⟩ := of_decide_eq_true hx
    exact decide_eq_true ⟨m, by omega, h2⟩
  · obtain ⟨s, hs, hu⟩ := List.any_eq_true.1 h
    refine ⟨s, hs, decide_eq_true ⟨n, Nat.le_refl _, hu⟩, decide_eq_false ?_⟩
    rintro ⟨m, h1, h2⟩
    have := under_one hu h2
    omega
theorem cntU_le (l : List (List UInt8)) (n : Nat) : cntU l n ≤ l.length := List.countP_le_length
end
/-- names under a top -/
def xF (m i : Nat) : List UInt8 := topF m ++ [46, 120] ++ Lib.decDigits i
def namesF (m n : Nat) : List (List UInt8) := (List.range n).map (xF m)
theorem xF_inj {m i k : Nat} (h : xF m i = xF m k) : i = k := by
  unfold xF at h
  rw [List.append_cancel_left_eq] at h
  exact dec_inj h
theorem namesF_nodup (m n : Nat) : (namesF m n).Nodup := by
  unfold namesF
  rw [List.nodup_iff_pairwise_ne, List.pairwise_map]
  exact (List.nodup_range (n := n)).imp fun h e => h (xF_inj e)
theorem namesF_length (m n : Nat) : (namesF m n).length = n := by simp [namesF]
end Go.Proofs.YtehhihdahalfeaaGreatDoor
namespace Go.Proofs.YtehhihdahalfeaaGreatDoor
open Go Go.Gw
theorem dec_len : ∀ (k u : Nat), u < 10 ^ (k + 1) → (Lib.decDigits u).length ≤ k + 1
  | 0, u, h => by
    rw [Lib.decDigits, dif_pos (by omega)]
    simp
  | k + 1, u, h => by
    rw [Lib.decDigits]
    split
    · simp
    · rw [List.length_append]
      have := dec_len k (u / 10) (by rw [Nat.div_lt_iff_lt_mul (by omega)]; rw [Nat.pow_succ] at h; exact h)
      simp only [List.length_cons, List.length_nil]
      omega
theorem rn_dig : ∀ {l r : List UInt8}, l.all isDig = true → rnF (l ++ r) false = rnF r false
  | [], r, _ => rfl
  | c :: l, r, h => by
    simp only [List.all_cons, Bool.and_eq_true, isDig, decide_eq_true_eq] at h
    have hd : digC c = true := decide_eq_true h.1
    rw [List.cons_append, rnF, if_neg (by omega), if_pos (by rw [hd]; simp)]
    exact rn_dig h.2
theorem name_top {m : Nat} (hm : m < 10000) : nameF (topF m) = true := by
  have h1 := dec_len 3 m hm
  rw [name_rn, topF, rnF, if_neg (by decide), if_pos (by decide)]
  have h2 := rn_dig (r := []) (dec_dig m)
  rw [List.append_nil] at h2
  rw [h2]
  simp only [List.length_cons, rnF, Bool.and_eq_true, decide_eq_true_eq]
  exact ⟨by omega, rfl⟩
theorem name_x {m i : Nat} (hm : m < 10000) (hi : i < 10000) : nameF (xF m i) = true := by
  have h1 := dec_len 3 m hm
  have h3 := dec_len 3 i hi
  have e : xF m i = 108 :: (Lib.decDigits m ++ (46 :: 120 :: Lib.decDigits i)) := by simp [xF, topF]
  rw [name_rn, e, rnF, if_neg (by decide), if_pos (by decide), rn_dig (dec_dig m), rnF, if_pos (by decide), if_neg (by decide), rnF, if_neg (by decide), if_pos (by decide)]
  have h2 := rn_dig (r := []) (dec_dig i)
  rw [List.append_nil] at h2
  rw [h2]
  simp only [List.length_cons, List.length_append, rnF, Bool.and_eq_true, decide_eq_true_eq]
  exact ⟨by omega, rfl⟩
theorem under_x {m i : Nat} (hm : m < 10000) (hi : i < 10000) : underF (xF m i) (topF m) = true := by
  have e : Lib.hasPrefix (xF m i) (topF m ++ [46]) = true := by
    unfold Lib.hasPrefix
    rw [List.isPrefixOf_iff_prefix]
    exact ⟨120 :: Lib.decDigits i, by simp [xF]⟩
  simp [underF, name_x hm hi, name_top hm, e]
end Go.Proofs.YtehhihdahalfeaaGreatDoor

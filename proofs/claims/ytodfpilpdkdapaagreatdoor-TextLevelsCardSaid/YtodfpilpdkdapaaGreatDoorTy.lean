/-
  Plain laws of texts: what a group's parts are, how long texts are. No program in sight.
-/
import Derived.Test.YtodfpilpdkdapaaGreatDoorTx
import Derived.Lib.ItoaLen
namespace Go.Gw
open Go

theorem lvTexts_eq : ∀ ls : List Lv, lvTexts ls = ls.map lvText
  | [] => rfl
  | l :: r => by rw [lvTexts, lvTexts_eq r]; rfl

theorem lens_mem {x : List UInt8} : ∀ {xs : List (List UInt8)}, x ∈ xs → x.length ≤ Lib.lens xs
  | y :: r, h => by
    rcases List.mem_cons.1 h with rfl | h
    · simp [Lib.lens]
    · have := lens_mem h
      simp only [Lib.lens] at this ⊢
      simp at this ⊢
      omega
theorem len_join {x sep : List UInt8} {xs : List (List UInt8)} (h : x ∈ xs) : x.length ≤ (Lib.join xs sep).length := by
  cases xs with
  | nil => cases h
  | cons y r =>
    rw [Lib.join_length]
    have := lens_mem h
    omega
theorem count_join {xs : List (List UInt8)} {c : UInt8} : xs.length ≤ (Lib.join xs [c]).length + 1 := by
  cases xs with
  | nil => simp
  | cons y r =>
    rw [Lib.join_length]
    simp
theorem group_length (xs : List (List UInt8)) : (groupF xs).length = (Lib.join xs [32]).length + 2 := by simp [groupF]
theorem len_group {x : List UInt8} {xs : List (List UInt8)} (h : x ∈ xs) : x.length ≤ (groupF xs).length := by
  have := len_join (sep := [32]) h
  rw [group_length]
  omega

theorem allFs_mem {p : Int} : ∀ {ls : List Lv} {l : Lv}, allFs ls p = true → l ∈ ls → allF l p = true
  | x :: r, l, h, hl => by
    rw [allFs, Bool.and_eq_true] at h
    rcases List.mem_cons.1 hl with rfl | hl
    · exact h.1
    · exact allFs_mem h.2 hl

theorem all_kind {k n : Int} {ls : List Lv} (h : allF (.mk k n ls) 4 = true) (h1 : ¬ k = 1) (h2 : ¬ k = 2) : (3 ≤ k ∧ k ≤ 5) ∧ 0 < ls.length ∧ ls.length ≤ 2 := by
  rw [allF, Bool.and_eq_true] at h
  have h := h.1
  rw [nodeF] at h
  split at h
  · rename_i hw
    unfold wideF at hw
    split at hw <;> (try split at hw) <;> (try split at hw) <;> (try split at hw) <;> omega
  · cases h

theorem lv_parts {k n : Int} {ls : List Lv} {B : Nat} (h : allF (.mk k n ls) 4 = true) (h1 : ¬ k = 1) (h2 : ¬ k = 2) (hb : (lvText (.mk k n ls)).length ≤ B) : ∀ l ∈ ls, allF l 4 = true ∧ (lvText l).length ≤ B := by
  intro l hl
  rw [allF, Bool.and_eq_true] at h
  refine ⟨allFs_mem h.2 hl, ?_⟩
  rw [lvText, if_neg h1, if_neg h2] at hb
  have := len_group (x := lvText l) (xs := signF k :: lvTexts ls) (by rw [lvTexts_eq]; exact List.mem_cons_of_mem _ (List.mem_map_of_mem hl))
  omega

/- a right level's text is short -/
mutual
theorem lvText_le : ∀ (l : Lv), allF l 4 = true → (lvText l).length ≤ 30 * sizeL l
  | .mk k n ls, h => by
    have h0 := h
    rw [allF, Bool.and_eq_true] at h
    rw [lvText, sizeL]
    by_cases h1 : k = 1
    · subst h1
      rw [if_pos rfl]
      have hn : 0 ≤ n ∧ n ≤ 100 := by
        have h := h.1
        rw [nodeF] at h
        split at h <;> simp at h
        exact h
      have := Lib.itoa_length_le n (by omega) (by omega)
      omega
    · rw [if_neg h1]
      by_cases h2 : k = 2
      · subst h2
        rw [if_pos rfl]
        have hn : 0 ≤ n ∧ n < 4 := by
          have h := h.1
          rw [nodeF] at h
          split at h <;> simp at h
          exact h
        have := Lib.itoa_length_le n (by omega) (by omega)
        simp
        omega
      · rw [if_neg h2]
        have hk := all_kind h0 h1 h2
        have hs := lvTexts_le ls h.2
        have h3 : (signF k).length ≤ 1 := by unfold signF; split <;> (try split) <;> (try split) <;> simp
        rw [group_length, Lib.join_length, lvTexts_eq]
        rw [lvTexts_eq] at hs
        have h4 : Lib.lens (signF k :: ls.map lvText) = (signF k).length + Lib.lens (ls.map lvText) := by simp [Lib.lens]
        rw [h4]
        simp
        omega
theorem lvTexts_le : ∀ (ls : List Lv), allFs ls 4 = true → Lib.lens (lvTexts ls) ≤ 30 * sizeLs ls
  | [], _ => by simp [lvTexts, Lib.lens]
  | l :: r, h => by
    rw [allFs, Bool.and_eq_true] at h
    have h1 := lvText_le l h.1
    have h2 := lvTexts_le r h.2
    have h4 : Lib.lens (lvText l :: lvTexts r) = (lvText l).length + Lib.lens (lvTexts r) := by simp [Lib.lens]
    rw [lvTexts, sizeLs, h4]
    omega
end

/- terms without applications -/
mutual
def noApp : Tm → Bool
  | .mk k _ _ _ ts => decide (k ≠ 4) && noApps ts
def noApps : List Tm → Bool
  | [] => true
  | t :: r => noApp t && noApps r
end
mutual
def txN : Tm → List UInt8
  | .mk k n s ls ts => if k = 1 then [35] ++ Lib.itoa n else if k = 2 then groupF [[42], lvText (ls.getD 0 (.mk 0 0 []))] else if k = 3 then (if ls.length = 0 then s else groupF ([64] :: s :: lvTexts ls)) else groupF (binderF k :: txNs ts)
def txNs : List Tm → List (List UInt8)
  | [] => []
  | t :: r => txN t :: txNs r
end
theorem txNs_eq : ∀ ts : List Tm, txNs ts = ts.map txN
  | [] => rfl
  | l :: r => by rw [txNs, txNs_eq r]; rfl
def textN (t : Tm) : List UInt8 := if rightT t 4 1125899906842624 = true then txN t else []
theorem rightT_all {t : Tm} {p kk : Int} (h : rightT t p kk = true) : allT t p (min kk 1125899906842624) = true := by
  simp only [rightT, Bool.and_eq_true] at h
  exact h.2.2.2.2
theorem noApps_mem : ∀ {ts : List Tm} {t : Tm}, noApps ts = true → t ∈ ts → noApp t = true
  | x :: r, l, h, hl => by
    rw [noApps, Bool.and_eq_true] at h
    rcases List.mem_cons.1 hl with rfl | hl
    · exact h.1
    · exact noApps_mem h.2 hl
theorem allTs_mem {p : Int} : ∀ {ts : List Tm} {t : Tm} {k i kk : Int}, allTs ts k i p kk = true → t ∈ ts → ∃ kk', allT t p kk' = true
  | x :: r, l, k, i, kk, h, hl => by
    rw [allTs, Bool.and_eq_true] at h
    rcases List.mem_cons.1 hl with rfl | hl
    · exact ⟨_, h.1⟩
    · exact allTs_mem h.2 hl
theorem rightLs_mem {p : Int} : ∀ {ls : List Lv} {l : Lv}, rightLs ls p = true → l ∈ ls → rightF l p = true
  | x :: r, l, h, hl => by
    rw [rightLs, Bool.and_eq_true] at h
    rcases List.mem_cons.1 hl with rfl | hl
    · exact h.1
    · exact rightLs_mem h.2 hl
theorem allT_open {k n kk : Int} {s : List UInt8} {ls : List Lv} {ts : List Tm} (h : allT (.mk k n s ls ts) 4 kk = true) :
    (1 ≤ k ∧ k ≤ 7) ∧ (ts.length : Int) = shArgs k ∧ (k = 2 → ls.length = 1) ∧ (∀ l ∈ ls, rightF l 4 = true) ∧ (∀ t ∈ ts, ∃ kk', allT t 4 kk' = true) ∧ ls.length ≤ 4 := by
  rw [allT] at h
  simp only [Bool.and_eq_true, decide_eq_true_eq] at h
  obtain ⟨h1, h2, h3, h4, h5⟩ := h
  refine ⟨h1, h2, fun e => ?_, fun l hl => rightLs_mem h4 hl, fun t ht => allTs_mem h5 ht, ?_⟩
  · subst e
    rw [nodeT] at h3
    simp [shLevels] at h3
    omega
  · rw [nodeT] at h3
    unfold shLevels at h3
    split at h3
    · simp at h3; simp [h3]
    · split at h3
      · simp at h3; omega
      · simp at h3
        have := h3.2.2
        split at this <;> omega
theorem tx_parts {k n : Int} {s : List UInt8} {ls : List Lv} {ts : List Tm} {B : Nat} (h1 : ¬ k = 1) (h2 : ¬ k = 2) (h3 : ¬ k = 3) (hb : (txN (.mk k n s ls ts)).length ≤ B) : ∀ t ∈ ts, (txN t).length ≤ B := by
  intro l hl
  rw [txN, if_neg h1, if_neg h2, if_neg h3] at hb
  have := len_group (x := txN l) (xs := binderF k :: txNs ts) (by rw [txNs_eq]; exact List.mem_cons_of_mem _ (List.mem_map_of_mem hl))
  omega
end Go.Gw

/-
  The law TextLevels, in the plain machine. No statement of the seat.
-/
import Derived.Test.YtodfpilpdkdapaaGreatDoorPx
namespace Go.Proofs.YtodfpilpdkdapaaGreatDoor
open Go Go.Am Go.Gw

theorem itoa_ne (n : Int) : Lib.itoa n ≠ [] := by
  unfold Lib.itoa
  split
  · simp
  · intro e
    have h1 := Lib.decDigits_length n.toNat
    have h2 := Lib.nDigits_pos n.toNat
    rw [e] at h1
    simp at h1
    omega
theorem lvText_ne (l : Lv) : lvText l ≠ [] := by
  obtain ⟨k, n, ls⟩ := l
  rw [lvText]
  split
  · exact itoa_ne n
  · split
    · simp
    · simp [groupF]
theorem levelText_nil (l : Lv) : (levelText l == []) = !rightF l 4 := by
  unfold levelText
  cases h : rightF l 4
  · rfl
  · rw [if_pos rfl]
    have := lvText_ne l
    cases e : lvText l with
    | nil => exact absurd e this
    | cons c r => rfl
theorem levelText_le (l : Lv) : (levelText l).length ≤ 2000 := by
  unfold levelText
  split
  · exact lv_short (by assumption)
  · simp
theorem right_cnt {l : Lv} (h : rightF l 4 = true) {left : Int} (hl : 64 ≤ left) : left - 64 ≤ countF l left := by
  have h1 := right_size' h
  rw [(countF_eq l left (by omega)).1 (by omega)]
  omega
abbrev sortT (l : Lv) : Tm := .mk 2 0 [] [l] []
abbrev constT (l m : Lv) : Tm := .mk 3 0 [99] [l, m] []
theorem right_sort (l : Lv) : rightT (sortT l) 4 1125899906842624 = rightF l 4 := by
  have ha : ∀ kk, allT (sortT l) 4 kk = rightF l 4 := fun kk => by simp [allT, allTs, nodeT, rightLs, shArgs, shLevels]
  rw [rightT, ha]
  cases h : rightF l 4
  · simp
  · have h1 := right_cnt h (left := 1999) (by omega)
    have : nodesT (sortT l) ≤ 2000 := by
      simp only [nodesT, cntT, cntTs, countFs]
      rw [if_neg (by omega)]
      have : (2000 : Int) - 1 = 1999 := rfl
      rw [this]
      omega
    simp [this]
theorem right_const (l m : Lv) : rightT (constT l m) 4 1125899906842624 = (rightF l 4 && rightF m 4) := by
  have hn : nameF [99] = true := by decide
  have ha : ∀ kk, allT (constT l m) 4 kk = (rightF l 4 && rightF m 4) := fun kk => by simp [allT, allTs, nodeT, rightLs, shArgs, hn]
  rw [rightT, ha]
  cases h : rightF l 4
  · simp
  · cases h' : rightF m 4
    · simp
    · have h1 := right_cnt h (left := 1999) (by omega)
      have h2 := right_cnt h' (left := countF l 1999) (by omega)
      have : nodesT (constT l m) ≤ 2000 := by
        simp only [nodesT, cntT, cntTs, countFs]
        have e : (2000 : Int) - 1 = 1999 := rfl
        rw [e, if_neg (by omega), if_neg (by omega)]
        omega
      simp [this]
theorem text_sort (l : Lv) : textN (sortT l) = if rightF l 4 = true then [40, 42, 32] ++ levelText l ++ [41] else [] := by
  rw [textN, right_sort]
  split
  · rename_i h
    rw [levelText, if_pos h]
    simp [txN, groupF, Lib.join]
  · rfl
theorem text_const (l m : Lv) : textN (constT l m) = if (rightF l 4 && rightF m 4) = true then [40, 64, 32, 99, 32] ++ levelText l ++ [32] ++ levelText m ++ [41] else [] := by
  rw [textN, right_const]
  split
  · rename_i h
    rw [Bool.and_eq_true] at h
    rw [levelText, if_pos h.1, levelText, if_pos h.2]
    simp [txN, groupF, lvTexts, Lib.join]
  · rfl
def NM1 (s : List UInt8) : Prop := s = [] ∨ s = [99]
set_option maxRecDepth 1000000 in
theorem nm1_ok : NmOk NM1 := by
  rintro s (rfl | rfl)
  · exact pf_of (st' := []) 60 (by kernel_rfl)
  · exact pf_of (st' := []) 60 (by kernel_rfl)
set_option maxRecDepth 1000000 in
theorem alive_can : Pf C1 4 [] [bv true] := pf_of (st' := []) 60 (by kernel_rfl)
set_option maxRecDepth 100000 in
theorem TextLevels_can (l m : Lv) (v w : PV) (hl : LvP l v) (hm : LvP m w) : Pf C1 3 [v, w] [bv true] := by
  have hl1 := levelNodes_can l v hl 300 (by omega) (by omega)
  have hm1 := levelNodes_can m w hm 300 (by omega) (by omega)
  have hl2 := Level_can l v hl
  have hm2 := Level_can m w hm
  have hl3 := levelText_le l
  have hm3 := levelText_le m
  have hs := Term_can nm1_ok (sortT l) (.ag [iv 2, iv 0, sv [], .sl true 3 [v], .sl true 0 []]) (by
    simp only [TmP, LvsP, TmsP]
    exact ⟨_, _, _, _, _, _, rfl, .inl rfl, ⟨v, [], rfl, hl, rfl⟩, by simp, .inr rfl, rfl, by simp, by simp, by unfold i64; omega⟩) (by simp [NmT, NmTs, NM1]) (by simp [noApp, noApps]) (fun h => by
    rw [right_sort] at h
    have := lv_short h
    simp [txN, groupF, Lib.join]
    omega)
  have hc := Term_can nm1_ok (constT l m) (.ag [iv 3, iv 0, sv [99], .sl true 3 [v, w], .sl true 0 []]) (by
    simp only [TmP, LvsP, TmsP]
    exact ⟨_, _, _, _, _, _, rfl, .inl rfl, ⟨v, _, rfl, hl, w, [], rfl, hm, rfl⟩, by simp, .inr rfl, rfl, by simp, by simp, by unfold i64; omega⟩) (by simp [NmT, NmTs, NM1]) (by simp [noApp, noApps]) (fun h => by
    rw [right_const, Bool.and_eq_true] at h
    have := lv_short h.1
    have := lv_short h.2
    simp [txN, groupF, lvTexts, Lib.join]
    omega)
  rw [text_sort] at hs
  rw [text_const] at hc
  have hal := alive_can
  obtain ⟨k, nn, ls, b, z, xs, rfl, rfl, hz, hxs, hlen, hbd⟩ := hl.open
  obtain ⟨k', nn', ls', b', z', xs', rfl, rfl, hz', hxs', hlen', hbd'⟩ := hm.open
  refine run_intro Tryz.func3 rfl rfl rfl ?_
  repeat' (conv => whnf
           first
           | refine VIf.tt rfl ?_
           | refine VIf.ff rfl ?_
           | refine VIf.not ?_
           | refine VIf.dtt (by assumption) ?_
           | refine VIf.dff (by assumption) ?_
           | refine VIf.dec (fun h => ?_) (fun h => ?_)
           | refine VIf.tt (by assumption) ?_
           | refine VIf.ff (by assumption) ?_
           | refine VIf.mk (fun h => ?_) (fun h => ?_)
           | refine VOk.mk rfl ?_
           | refine VNat.mk _ rfl ?_
           | refine VArith.fits (by unfold i64; omega) ?_
           | refine vret_pf rfl ?_
           | refine vret_take rfl rfl ?_
           | refine vcall_pf hal rfl rfl ?_
           | refine vcall_pf hl1 rfl rfl ?_
           | refine vcall_pf hm1 rfl rfl ?_
           | refine vcall_pf hl2 rfl rfl ?_
           | refine vcall_pf hm2 rfl rfl ?_
           | refine vcall_pf hs rfl rfl ?_
           | refine vcall_pf hc rfl rfl ?_
           | refine vres_str ?_
           | refine VOk.mk (decide_eq_true (by simp; omega)) ?_)
  all_goals (try (conv => whnf))
  all_goals
    have e1 := levelText_nil (.mk k nn ls)
    have e2 := levelText_nil (.mk k' nn' ls')
    clear hs hc hl1 hm1 hl2 hm2 hal
    cases h1 : rightF (.mk k nn ls) 4 <;> cases h2 : rightF (.mk k' nn' ls') 4 <;> simp_all
end Go.Proofs.YtodfpilpdkdapaaGreatDoor

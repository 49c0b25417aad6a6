/-
  Plain laws of levels in place of parameters. No program in sight.
-/
import Derived.Test.YtagilgmgacpffaaLp
namespace Go.Gw
open Go

theorem all_mono (l : Lv) : ∀ {p q : Int}, p ≤ q → allF l p = true → allF l q = true := by
  induction l using Lv.ind with
  | _ k n ls ih =>
    intro p q hpq h
    have hn := node_parts (all_node h)
    have hargs : ∀ x ∈ ls, allF x q = true := fun x hx => by
      obtain ⟨i, hi, rfl⟩ := List.getElem_of_mem hx
      exact ih _ hx hpq (all_arg h (List.getElem?_eq_getElem hi))
    rcases hn with ⟨rfl, rfl, h1⟩ | ⟨rfl, rfl, h1⟩ | ⟨rfl, rfl, x, rfl⟩ | ⟨hk, rfl, x, y, rfl⟩
    · simp [allF, allFs, nodeF, wideF]; omega
    · simp [allF, allFs, nodeF, wideF]; omega
    · exact all_mk1 (hargs x (by simp))
    · exact all_mk2 hk (hargs x (by simp)) (hargs y (by simp))

theorem instF_leaf1 {n : Int} {bys : List Lv} : instF (.mk 1 n []) bys = .mk 1 n [] := by simp [instF, instFs, instNode]
theorem instF_leaf2 {n : Int} {bys : List Lv} : instF (.mk 2 n []) bys = bys.getD n.toNat (.mk 0 0 []) := by simp [instF, instFs, instNode]
theorem instF_one {n : Int} {x : Lv} {bys : List Lv} : instF (.mk 3 n [x]) bys = .mk 3 n [instF x bys] := by simp [instF, instFs, instNode]
theorem instF_two {k n : Int} {x y : Lv} {bys : List Lv} (hk : k = 4 ∨ k = 5) : instF (.mk k n [x, y]) bys = .mk k n [instF x bys, instF y bys] := by
  simp [instF, instFs, instNode]; omega

theorem byRight_at {bys : List Lv} {i : Nat} {x : Lv} (h : byRight bys = true) (hx : bys[i]? = some x) : rightF x 4 = true := by
  induction bys generalizing i with
  | nil => simp at hx
  | cons y r ih =>
    simp only [byRight, Bool.and_eq_true] at h
    cases i with
    | zero => simp at hx; subst hx; exact h.1
    | succ i => exact ih h.2 (by simpa using hx)

theorem inst_law (l : Lv) : ∀ (bys : List Lv) (f : Int → Int), allF l bys.length = true → byRight bys = true →
    allF (instF l bys) 4 = true ∧ (sizeL (instF l bys) : Int) = grownF l bys ∧ valF (instF l bys) f = valF l (fun i => valF (bys.getD i.toNat (.mk 0 0 [])) f) := by
  induction l using Lv.ind with
  | _ k n ls ih =>
    intro bys f h hb
    rcases node_parts (all_node h) with ⟨rfl, rfl, h1⟩ | ⟨rfl, rfl, h1⟩ | ⟨rfl, rfl, x, rfl⟩ | ⟨hk, rfl, x, y, rfl⟩
    · rw [instF_leaf1]
      refine ⟨by simp [allF, allFs, nodeF, wideF]; omega, by simp [sizeL, sizeLs, grownF, grownFs, grownNode], by simp [valF, valNode]⟩
    · rw [instF_leaf2]
      obtain ⟨x, hx⟩ : ∃ x, bys[n.toNat]? = some x := ⟨_, List.getElem?_eq_getElem (by omega)⟩
      have hr := byRight_at hb hx
      have e : bys.getD n.toNat (.mk 0 0 []) = x := by rw [List.getD_eq_getElem?_getD, hx]; rfl
      have hs := right_size' hr
      rw [e]
      refine ⟨right_all hr, ?_, ?_⟩
      · simp only [grownF, grownNode, if_true, e, nodesF_eq]; omega
      · simp [valF, valNode]
        rw [← List.getD_eq_getElem?_getD, e]
    · obtain ⟨a1, a2, a3⟩ := ih x (by simp) bys f (all_arg h (i := 0) rfl) hb
      rw [instF_one]
      refine ⟨all_mk1 a1, ?_, by rw [valF_mk1, valF_mk1, a3]⟩
      simp only [sizeL, sizeLs, grownF, grownFs, grownNode, if_neg (show ¬ (3 : Int) = 2 by omega)]; omega
    · obtain ⟨a1, a2, a3⟩ := ih x (by simp) bys f (all_arg h (i := 0) rfl) hb
      obtain ⟨b1, b2, b3⟩ := ih y (by simp) bys f (all_arg h (i := 1) rfl) hb
      rw [instF_two hk]
      refine ⟨all_mk2 hk a1 b1, ?_, by rw [valF_mk2 (by omega) (by omega) (by omega), valF_mk2 (by omega) (by omega) (by omega), a3, b3]⟩
      simp only [sizeL, sizeLs, grownF, grownFs, grownNode, if_neg (show ¬ k = 2 by omega)]; omega

theorem valF_congr (l : Lv) : ∀ {p : Int} {f g : Int → Int}, allF l p = true → (∀ i, 0 ≤ i → i < p → f i = g i) → valF l f = valF l g := by
  induction l using Lv.ind with
  | _ k n ls ih =>
    intro p f g h hfg
    rcases node_parts (all_node h) with ⟨rfl, rfl, h1⟩ | ⟨rfl, rfl, h1⟩ | ⟨rfl, rfl, x, rfl⟩ | ⟨hk, rfl, x, y, rfl⟩
    · simp [valF, valNode]
    · rw [valF_param, valF_param, hfg n h1.1 h1.2]
    · rw [valF_mk1, valF_mk1, ih x (by simp) (all_arg h (i := 0) rfl) hfg]
    · rw [valF_mk2 (by omega) (by omega) (by omega), valF_mk2 (by omega) (by omega) (by omega), ih x (by simp) (all_arg h (i := 0) rfl) hfg, ih y (by simp) (all_arg h (i := 1) rfl) hfg]

theorem InstF_some {l r : Lv} {bys : List Lv} (h : InstF l bys = some r) : rightF l bys.length = true ∧ byRight bys = true ∧ grownF l bys ≤ 64 ∧ r = instF l bys := by
  unfold InstF at h
  split at h
  · split at h
    · split at h
      · rename_i h1 h2 h3
        exact ⟨h1, h2, h3, by simpa using h.symm⟩
      · cases h
    · cases h
  · cases h

theorem inst_value {l r : Lv} {bys : List Lv} (vs : List Int) (h : InstF l bys = some r) (hle : ∀ b ∈ bys, valueF b vs ≤ 1048576) : valueF r vs = valueF l (bys.map fun b => valueF b vs) := by
  obtain ⟨h1, h2, h3, rfl⟩ := InstF_some h
  obtain ⟨i1, i2, i3⟩ := inst_law l bys (clampF vs) (right_all h1) h2
  have hp : (bys.length : Int) ≤ 4 := by
    simp only [rightF, Bool.and_eq_true, decide_eq_true_eq] at h1
    exact h1.2.1
  have hr : rightF (instF l bys) 4 = true := right_of (by omega) (by omega) (by omega) i1
  have hl : rightF l 4 = true := right_of (by omega) (by omega) (right_size' h1) (all_mono l hp (right_all h1))
  unfold valueF
  rw [if_pos hr, if_pos hl, i3]
  refine valF_congr l (right_all h1) fun i h0 hi => ?_
  obtain ⟨x, hx⟩ : ∃ x, bys[i.toNat]? = some x := ⟨_, List.getElem?_eq_getElem (by omega)⟩
  have hxr := byRight_at h2 hx
  have hb := valueF_bound x vs
  have hv : valueF x vs = valF x (clampF vs) := by unfold valueF; rw [if_pos hxr]
  have hle' := hle x (List.mem_of_getElem? hx)
  have e : bys.getD i.toNat (.mk 0 0 []) = x := by rw [List.getD_eq_getElem?_getD, hx]; rfl
  have hc : ∀ (us : List Int) (u : Int), us[i.toNat]? = some u → clampF us i = min (max u 0) 1048576 := fun us u hu => by simp [clampF, hu]
  show valF (bys.getD i.toNat (.mk 0 0 [])) (clampF vs) = clampF _ i
  rw [e, hc _ (valueF x vs) (by rw [List.getElem?_map, hx]; rfl), ← hv]
  omega

end Go.Gw

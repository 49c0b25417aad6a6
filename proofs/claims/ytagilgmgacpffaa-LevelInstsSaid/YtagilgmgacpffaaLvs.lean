/-
  Contracts of the reference of layer 3.
-/
import Derived.Test.YtagilgmgacpffaaLvr
namespace Go.Proofs.Ytagilgmgacpffaa
open Go Go.Gw

theorem rright_spec (l : Lv) : ∀ (p : Int) (m : Mem) (cs : List Value), LvV m l cs → Scal Try.prog 33 #[.agg cs.toArray, .int .i64 p] m (.bool (allF l p)) := by
  induction l using Lv.ind with
  | _ k nn ls ih =>
    intro p m cs hl
    refine scal_of ?_
    obtain ⟨_, _, _, a, cap, ⟨rfl, rfl, rfl⟩, rfl, hk, hn, hlen, hat⟩ := hl.open
    refine spec_body (vs := [_, _]) Try.func33 rfl Try.ntmps33 rfl (fun E => ?_)
    refine x_seq ?_
    refine x_region ?_
    refine xo_box rfl rfl (cs := [_, _, _]) rfl (fun b2 => ?_)
    refine xo_rn rfl (rn_assign rfl) ?_
    refine xo_nil (kseq_normal ?_)
    refine x_seq ?_
    refine x_region ?_
    refine xo_rn rfl (rn_assign rfl) ?_
    refine xo_nil (kseq_normal ?_)
    refine x_seq ?_
    refine x_seq ?_
    refine x_region ?_
    refine xo_rn rfl (rn_fieldAddr tf24_0 rfl) ?_
    refine xo_rl rfl (rl_own (q := 0) tk3 rfl rfl rfl) ?_
    refine xo_nil (kseq_normal ?_)
    refine x_cut (G := Int) (fun g => [(5, .int .i64 g), (2, .pointer (some ⟨b2, 0, none⟩)), (1, .int .i64 p)])
      (fun g => [bx b2 24 [.int .i64 k, .int .i64 nn, .slice a ls.length cap]]) (fun g m' => g = wideF k ∧ 1 ≤ g ∧ g ≤ 2 ∧ ¬ k = 1 ∧ ¬ k = 2) ?_ ?_
    · refine x_block ?_
      refine x_seq ?_
      refine x_region ?_
      refine xo_rn rfl (rn_eql rfl rfl) ?_
      refine xo_rn rfl (rn_assign rfl) ?_
      refine xo_nil (kseq_normal ?_)
      refine x_cond rfl (fun hc9 => ?_) (fun hc9 => ?_)
      · have hc9b := hc9
        try rw [Bool.not_eq_true'] at hc9
        try rw [Bool.not_eq_false'] at hc9
        try rw [decide_eq_true_eq] at hc9
        try rw [decide_eq_false_iff_not] at hc9
        try rw [Int.not_lt] at hc9
        try rw [Int.not_le] at hc9
        refine x_seq ?_
        refine x_region ?_
        refine xo_rn rfl (rn_fieldAddr tf24_1 rfl) ?_
        refine xo_rl rfl (rl_own (q := 0) tk3 rfl rfl rfl) ?_
        refine xo_rn rfl (rn_geq rfl rfl) ?_
        refine xo_rn rfl (rn_move rfl) ?_
        refine xo_guard rfl rfl (fun hg14 => ?_) (fun hg14 => ?_) rfl
        · have hg14_p := hg14
          try rw [Bool.not_eq_true'] at hg14_p
          try rw [Bool.not_eq_false'] at hg14_p
          try rw [decide_eq_true_eq] at hg14_p
          try rw [decide_eq_false_iff_not] at hg14_p
          try rw [Int.not_lt] at hg14_p
          try rw [Int.not_le] at hg14_p
          refine xo_rn rfl (rn_fieldAddr tf24_1 rfl) ?_
          refine xo_guard_yes rfl rfl hg14 ?_ rfl
          refine xo_rl rfl (rl_own (q := 0) tk3 rfl rfl rfl) ?_
          refine xo_guard_yes rfl rfl hg14 ?_ rfl
          refine xo_rn rfl (rn_leq rfl rfl) ?_
          refine xo_rn rfl (rn_pick_t rfl hg14 rfl) ?_
          refine xo_rn rfl (rn_move rfl) ?_
          refine xo_guard rfl rfl (fun hg19 => ?_) (fun hg19 => ?_) rfl
          · have hg19_p := hg19
            try rw [Bool.not_eq_true'] at hg19_p
            try rw [Bool.not_eq_false'] at hg19_p
            try rw [decide_eq_true_eq] at hg19_p
            try rw [decide_eq_false_iff_not] at hg19_p
            try rw [Int.not_lt] at hg19_p
            try rw [Int.not_le] at hg19_p
            refine xo_rn rfl (rn_fieldAddr tf24_2 rfl) ?_
            refine xo_guard_yes rfl rfl hg19 ?_ rfl
            refine xo_rl rfl (rl_own (q := 0) tk22 rfl rfl rfl) ?_
            refine xo_guard_yes rfl rfl hg19 ?_ rfl
            refine xo_rn rfl (rn_len_slice tsl22 rfl) ?_
            refine xo_guard_yes rfl rfl hg19 ?_ rfl
            refine xo_rn rfl (rn_eql rfl rfl) ?_
            refine xo_rn rfl (rn_pick_t rfl hg19 rfl) ?_
            refine xo_rn rfl (rn_assign rfl) ?_
            refine xo_nil (kseq_normal ?_)
            refine x_ret (kblock_ret (kcut_ret (kseq_ret ?_)))
            refine ⟨rfl, [_], .cons (.tmp rfl) (.nil), fin_drop (μ' := []) (List.nil_sublist _) (fin_done (ret_tup1 ?_))⟩
            simp [allF, nodeF, wideF, hc9, hg14_p, hg19_p, len_nil]
            rintro rfl
            simp [allFs]
          · replace hg19 := ne_t hg19
            have hg19_p := hg19
            try rw [Bool.not_eq_true'] at hg19_p
            try rw [Bool.not_eq_false'] at hg19_p
            try rw [decide_eq_true_eq] at hg19_p
            try rw [decide_eq_false_iff_not] at hg19_p
            try rw [Int.not_lt] at hg19_p
            try rw [Int.not_le] at hg19_p
            dsimp only [putU]
            refine xo_guard_no rfl rfl (by rw [hg19]; decide) rfl ?_
            refine xo_guard_no rfl rfl (by rw [hg19]; decide) rfl ?_
            refine xo_guard_no rfl rfl (by rw [hg19]; decide) rfl ?_
            refine xo_rn rfl (rn_pick_f rfl hg19 rfl) ?_
            refine xo_rn rfl (rn_assign rfl) ?_
            refine xo_nil (kseq_normal ?_)
            refine x_ret (kblock_ret (kcut_ret (kseq_ret ?_)))
            refine ⟨rfl, [_], .cons (.tmp rfl) (.nil), fin_drop (μ' := []) (List.nil_sublist _) (fin_done (ret_tup1 ?_))⟩
            simp [allF, nodeF, hc9]
            intro _ _
            omega
        · replace hg14 := ne_t hg14
          have hg14_p := hg14
          try rw [Bool.not_eq_true'] at hg14_p
          try rw [Bool.not_eq_false'] at hg14_p
          try rw [decide_eq_true_eq] at hg14_p
          try rw [decide_eq_false_iff_not] at hg14_p
          try rw [Int.not_lt] at hg14_p
          try rw [Int.not_le] at hg14_p
          dsimp only [putU]
          refine xo_guard_no rfl rfl (by rw [hg14]; decide) rfl ?_
          refine xo_guard_no rfl rfl (by rw [hg14]; decide) rfl ?_
          refine xo_rn rfl (rn_pick_f rfl hg14 rfl) ?_
          refine xo_rn rfl (rn_move rfl) ?_
          refine xo_guard_no rfl rfl (by decide) rfl ?_
          refine xo_guard_no rfl rfl (by decide) rfl ?_
          refine xo_guard_no rfl rfl (by decide) rfl ?_
          refine xo_guard_no rfl rfl (by decide) rfl ?_
          refine xo_rn rfl (rn_pick_f rfl rfl rfl) ?_
          refine xo_rn rfl (rn_assign rfl) ?_
          refine xo_nil (kseq_normal ?_)
          refine x_ret (kblock_ret (kcut_ret (kseq_ret ?_)))
          refine ⟨rfl, [_], .cons (.tmp rfl) (.nil), fin_drop (μ' := []) (List.nil_sublist _) (fin_done (ret_tup1 ?_))⟩
          simp [allF, nodeF, hc9]
          intro _
          omega
      · have hc9b := hc9
        try rw [Bool.not_eq_true'] at hc9
        try rw [Bool.not_eq_false'] at hc9
        try rw [decide_eq_true_eq] at hc9
        try rw [decide_eq_false_iff_not] at hc9
        try rw [Int.not_lt] at hc9
        try rw [Int.not_le] at hc9
        refine x_seq ?_
        refine x_region ?_
        refine xo_rn rfl (rn_eql rfl rfl) ?_
        refine xo_rn rfl (rn_assign rfl) ?_
        refine xo_nil (kseq_normal ?_)
        refine x_cond rfl (fun hc25 => ?_) (fun hc25 => ?_)
        · have hc25b := hc25
          try rw [Bool.not_eq_true'] at hc25
          try rw [Bool.not_eq_false'] at hc25
          try rw [decide_eq_true_eq] at hc25
          try rw [decide_eq_false_iff_not] at hc25
          try rw [Int.not_lt] at hc25
          try rw [Int.not_le] at hc25
          refine x_seq ?_
          refine x_region ?_
          refine xo_rn rfl (rn_fieldAddr tf24_1 rfl) ?_
          refine xo_rl rfl (rl_own (q := 0) tk3 rfl rfl rfl) ?_
          refine xo_rn rfl (rn_geq rfl rfl) ?_
          refine xo_rn rfl (rn_move rfl) ?_
          refine xo_guard rfl rfl (fun hg30 => ?_) (fun hg30 => ?_) rfl
          · have hg30_p := hg30
            try rw [Bool.not_eq_true'] at hg30_p
            try rw [Bool.not_eq_false'] at hg30_p
            try rw [decide_eq_true_eq] at hg30_p
            try rw [decide_eq_false_iff_not] at hg30_p
            try rw [Int.not_lt] at hg30_p
            try rw [Int.not_le] at hg30_p
            refine xo_rn rfl (rn_fieldAddr tf24_1 rfl) ?_
            refine xo_guard_yes rfl rfl hg30 ?_ rfl
            refine xo_rl rfl (rl_own (q := 0) tk3 rfl rfl rfl) ?_
            refine xo_guard_yes rfl rfl hg30 ?_ rfl
            refine xo_rn rfl (rn_move rfl) ?_
            refine xo_guard_yes rfl rfl hg30 ?_ rfl
            refine xo_rn rfl (rn_lss rfl rfl) ?_
            refine xo_rn rfl (rn_pick_t rfl hg30 rfl) ?_
            refine xo_rn rfl (rn_move rfl) ?_
            refine xo_guard rfl rfl (fun hg36 => ?_) (fun hg36 => ?_) rfl
            · have hg36_p := hg36
              try rw [Bool.not_eq_true'] at hg36_p
              try rw [Bool.not_eq_false'] at hg36_p
              try rw [decide_eq_true_eq] at hg36_p
              try rw [decide_eq_false_iff_not] at hg36_p
              try rw [Int.not_lt] at hg36_p
              try rw [Int.not_le] at hg36_p
              refine xo_rn rfl (rn_fieldAddr tf24_2 rfl) ?_
              refine xo_guard_yes rfl rfl hg36 ?_ rfl
              refine xo_rl rfl (rl_own (q := 0) tk22 rfl rfl rfl) ?_
              refine xo_guard_yes rfl rfl hg36 ?_ rfl
              refine xo_rn rfl (rn_len_slice tsl22 rfl) ?_
              refine xo_guard_yes rfl rfl hg36 ?_ rfl
              refine xo_rn rfl (rn_eql rfl rfl) ?_
              refine xo_rn rfl (rn_pick_t rfl hg36 rfl) ?_
              refine xo_rn rfl (rn_assign rfl) ?_
              refine xo_nil (kseq_normal ?_)
              refine x_ret (kblock_ret (kcut_ret (kseq_ret ?_)))
              refine ⟨rfl, [_], .cons (.tmp rfl) (.nil), fin_drop (μ' := []) (List.nil_sublist _) (fin_done (ret_tup1 ?_))⟩
              simp [allF, nodeF, wideF, hc25, hg30_p, hg36_p, len_nil]
              rintro rfl
              simp [allFs]
            · replace hg36 := ne_t hg36
              have hg36_p := hg36
              try rw [Bool.not_eq_true'] at hg36_p
              try rw [Bool.not_eq_false'] at hg36_p
              try rw [decide_eq_true_eq] at hg36_p
              try rw [decide_eq_false_iff_not] at hg36_p
              try rw [Int.not_lt] at hg36_p
              try rw [Int.not_le] at hg36_p
              dsimp only [putU]
              refine xo_guard_no rfl rfl (by rw [hg36]; decide) rfl ?_
              refine xo_guard_no rfl rfl (by rw [hg36]; decide) rfl ?_
              refine xo_guard_no rfl rfl (by rw [hg36]; decide) rfl ?_
              refine xo_rn rfl (rn_pick_f rfl hg36 rfl) ?_
              refine xo_rn rfl (rn_assign rfl) ?_
              refine xo_nil (kseq_normal ?_)
              refine x_ret (kblock_ret (kcut_ret (kseq_ret ?_)))
              refine ⟨rfl, [_], .cons (.tmp rfl) (.nil), fin_drop (μ' := []) (List.nil_sublist _) (fin_done (ret_tup1 ?_))⟩
              simp [allF, nodeF, hc25]
              intro _ _
              omega
          · replace hg30 := ne_t hg30
            have hg30_p := hg30
            try rw [Bool.not_eq_true'] at hg30_p
            try rw [Bool.not_eq_false'] at hg30_p
            try rw [decide_eq_true_eq] at hg30_p
            try rw [decide_eq_false_iff_not] at hg30_p
            try rw [Int.not_lt] at hg30_p
            try rw [Int.not_le] at hg30_p
            dsimp only [putU]
            refine xo_guard_no rfl rfl (by rw [hg30]; decide) rfl ?_
            refine xo_guard_no rfl rfl (by rw [hg30]; decide) rfl ?_
            refine xo_guard_no rfl rfl (by rw [hg30]; decide) rfl ?_
            refine xo_rn rfl (rn_pick_f rfl hg30 rfl) ?_
            refine xo_rn rfl (rn_move rfl) ?_
            refine xo_guard_no rfl rfl (by decide) rfl ?_
            refine xo_guard_no rfl rfl (by decide) rfl ?_
            refine xo_guard_no rfl rfl (by decide) rfl ?_
            refine xo_guard_no rfl rfl (by decide) rfl ?_
            refine xo_rn rfl (rn_pick_f rfl rfl rfl) ?_
            refine xo_rn rfl (rn_assign rfl) ?_
            refine xo_nil (kseq_normal ?_)
            refine x_ret (kblock_ret (kcut_ret (kseq_ret ?_)))
            refine ⟨rfl, [_], .cons (.tmp rfl) (.nil), fin_drop (μ' := []) (List.nil_sublist _) (fin_done (ret_tup1 ?_))⟩
            simp [allF, nodeF, hc25]
            intro _
            omega
        · have hc25b := hc25
          try rw [Bool.not_eq_true'] at hc25
          try rw [Bool.not_eq_false'] at hc25
          try rw [decide_eq_true_eq] at hc25
          try rw [decide_eq_false_iff_not] at hc25
          try rw [Int.not_lt] at hc25
          try rw [Int.not_le] at hc25
          refine x_seq ?_
          refine x_region ?_
          refine xo_rn rfl (rn_eql rfl rfl) ?_
          refine xo_rn rfl (rn_assign rfl) ?_
          refine xo_nil (kseq_normal ?_)
          refine x_cond rfl (fun hc42 => ?_) (fun hc42 => ?_)
          · have hc42b := hc42
            try rw [Bool.not_eq_true'] at hc42
            try rw [Bool.not_eq_false'] at hc42
            try rw [decide_eq_true_eq] at hc42
            try rw [decide_eq_false_iff_not] at hc42
            try rw [Int.not_lt] at hc42
            try rw [Int.not_le] at hc42
            refine x_region ?_
            refine xo_rn rfl (rn_assign rfl) ?_
            refine xo_nil (kblock_normal (kcut_normal ?_))
            exact ⟨1, ⟨by simp [wideF, hc42], by omega, by omega, by omega, by omega⟩, ⟨rfl, rfl, rfl, trivial⟩, .refl _, rfl, Mem.le.refl _⟩
          · have hc42b := hc42
            try rw [Bool.not_eq_true'] at hc42
            try rw [Bool.not_eq_false'] at hc42
            try rw [decide_eq_true_eq] at hc42
            try rw [decide_eq_false_iff_not] at hc42
            try rw [Int.not_lt] at hc42
            try rw [Int.not_le] at hc42
            refine x_seq ?_
            refine x_seq ?_
            refine x_region ?_
            refine xo_rn rfl (rn_eql rfl rfl) ?_
            refine xo_rn rfl (rn_assign rfl) ?_
            refine xo_nil (kseq_normal ?_)
            refine x_cond rfl (fun hc44 => ?_) (fun hc44 => ?_)
            · have hc44b := hc44
              try rw [Bool.not_eq_true'] at hc44
              try rw [Bool.not_eq_false'] at hc44
              try rw [decide_eq_true_eq] at hc44
              try rw [decide_eq_false_iff_not] at hc44
              try rw [Int.not_lt] at hc44
              try rw [Int.not_le] at hc44
              refine x_skip (kseq_normal ?_)
              refine x_cond_yes rfl hc44b ?_
              refine x_region ?_
              refine xo_rn rfl (rn_assign rfl) ?_
              refine xo_nil (kblock_normal (kcut_normal ?_))
              exact ⟨2, ⟨by simp [wideF, hc44], by omega, by omega, by omega, by omega⟩, ⟨rfl, rfl, rfl, trivial⟩, .refl _, rfl, Mem.le.refl _⟩
            · have hc44b := hc44
              try rw [Bool.not_eq_true'] at hc44
              try rw [Bool.not_eq_false'] at hc44
              try rw [decide_eq_true_eq] at hc44
              try rw [decide_eq_false_iff_not] at hc44
              try rw [Int.not_lt] at hc44
              try rw [Int.not_le] at hc44
              refine x_region ?_
              refine xo_rn rfl (rn_eql rfl rfl) ?_
              refine xo_rn rfl (rn_assign rfl) ?_
              refine xo_nil (kseq_normal ?_)
              refine x_cond rfl (fun hc44_2 => ?_) (fun hc44_2 => ?_)
              · have hc44_2b := hc44_2
                try rw [Bool.not_eq_true'] at hc44_2
                try rw [Bool.not_eq_false'] at hc44_2
                try rw [decide_eq_true_eq] at hc44_2
                try rw [decide_eq_false_iff_not] at hc44_2
                try rw [Int.not_lt] at hc44_2
                try rw [Int.not_le] at hc44_2
                refine x_region ?_
                refine xo_rn rfl (rn_assign rfl) ?_
                refine xo_nil (kblock_normal (kcut_normal ?_))
                exact ⟨2, ⟨by simp [wideF, hc44_2], by omega, by omega, by omega, by omega⟩, ⟨rfl, rfl, rfl, trivial⟩, .refl _, rfl, Mem.le.refl _⟩
              · have hc44_2b := hc44_2
                try rw [Bool.not_eq_true'] at hc44_2
                try rw [Bool.not_eq_false'] at hc44_2
                try rw [decide_eq_true_eq] at hc44_2
                try rw [decide_eq_false_iff_not] at hc44_2
                try rw [Int.not_lt] at hc44_2
                try rw [Int.not_le] at hc44_2
                refine x_seq ?_
                refine x_region ?_
                refine xo_rn rfl (rn_assign rfl) ?_
                refine xo_nil (kseq_normal ?_)
                refine x_ret (kblock_ret (kcut_ret (kseq_ret ?_)))
                refine ⟨rfl, [_], .cons (.tmp rfl) (.nil), fin_drop (μ' := []) (List.nil_sublist _) (fin_done (ret_tup1 ?_))⟩
                have hw : wideF k = -1 := by simp [wideF, hc9, hc25, hc42, hc44, hc44_2]
                simp [allF, nodeF, hw]
    · rintro wd m0 ⟨hwd, hwd1, hwd2, hk1, hk2⟩ hle0
      refine kseq_normal ?_
      refine x_seq ?_
      refine x_seq ?_
      refine x_region ?_
      refine xo_rn rfl (rn_fieldAddr tf24_1 rfl) ?_
      refine xo_rl rfl (rl_own (q := 0) tk3 rfl rfl rfl) ?_
      refine xo_rn rfl (rn_neq rfl rfl) ?_
      refine xo_rn rfl (rn_move rfl) ?_
      refine xo_guard rfl rfl (fun hg50 => ?_) (fun hg50 => ?_) rfl
      · have hg50_p := hg50
        try rw [Bool.not_eq_true'] at hg50_p
        try rw [Bool.not_eq_false'] at hg50_p
        try rw [decide_eq_true_eq] at hg50_p
        try rw [decide_eq_false_iff_not] at hg50_p
        try rw [Int.not_lt] at hg50_p
        try rw [Int.not_le] at hg50_p
        refine xo_rn rfl (rn_fieldAddr tf24_2 rfl) ?_
        refine xo_guard_yes rfl rfl hg50 ?_ rfl
        refine xo_rl rfl (rl_own (q := 0) tk22 rfl rfl rfl) ?_
        refine xo_guard_yes rfl rfl hg50 ?_ rfl
        refine xo_rn rfl (rn_len_slice tsl22 rfl) ?_
        refine xo_guard_yes rfl rfl hg50 ?_ rfl
        refine xo_rn rfl (rn_move rfl) ?_
        refine xo_guard_yes rfl rfl hg50 ?_ rfl
        refine xo_rn rfl (rn_neq rfl rfl) ?_
        refine xo_rn rfl (rn_pick_f rfl hg50 rfl) ?_
        refine xo_nil (kseq_normal ?_)
        refine x_cond rfl (fun hc56 => ?_) (fun hc56 => ?_)
        · have hc56b := hc56
          try rw [Bool.not_eq_true'] at hc56
          try rw [Bool.not_eq_false'] at hc56
          try rw [decide_eq_true_eq] at hc56
          try rw [decide_eq_false_iff_not] at hc56
          try rw [Int.not_lt] at hc56
          try rw [Int.not_le] at hc56
          refine x_seq ?_
          refine x_region ?_
          refine xo_rn rfl (rn_assign rfl) ?_
          refine xo_nil (kseq_normal ?_)
          refine x_ret (kseq_ret ?_)
          refine ⟨rfl, [_], .cons (.tmp rfl) (.nil), fin_drop (μ' := []) (List.nil_sublist _) (fin_done (ret_tup1 ?_))⟩
          have hw : ¬ ((ls.length : Int) = wideF k) := by omega
          simp [allF, nodeF, hw]
        · have hc56b := hc56
          try rw [Bool.not_eq_true'] at hc56
          try rw [Bool.not_eq_false'] at hc56
          try rw [decide_eq_true_eq] at hc56
          try rw [decide_eq_false_iff_not] at hc56
          try rw [Int.not_lt] at hc56
          try rw [Int.not_le] at hc56
          refine x_skip (kseq_normal ?_)
          refine x_seq ?_
          refine x_seq ?_
          refine x_region ?_
          refine xo_rn rfl (rn_assign rfl) ?_
          refine xo_nil (kseq_normal ?_)
          refine x_block ?_
          have hwl : wd = (ls.length : Int) := by omega
          have hnode : nodeF (.mk k nn ls) p = true := by simp [nodeF, hk1, hk2, hg50_p, ← hwd, hwl]
          refine x_loop (G := Nat) (fun g => [(6, .int .i64 (g : Int)), (5, .int .i64 wd), (2, .pointer (some ⟨b2, 0, none⟩)), (1, .int .i64 p)])
            (fun g => [bx b2 24 [.int .i64 k, .int .i64 nn, .slice a ls.length cap]]) (fun g m' => g ≤ ls.length ∧ allFs (ls.drop g) p = allFs ls p) (fun g => ls.length - g) 0
            ⟨by simp, by simp⟩ ⟨rfl, rfl, rfl, rfl, trivial⟩ (.cons_cons _ (.refl _)) ?_
          rintro i m' ⟨hi, hall⟩ hle
          refine x_seq ?_
          refine x_seq ?_
          refine x_region ?_
          refine xo_rn rfl (rn_move rfl) ?_
          refine xo_rn rfl (rn_move rfl) ?_
          refine xo_rn rfl (rn_lss rfl rfl) ?_
          refine xo_nil (kseq_normal ?_)
          refine x_cond rfl (fun hc59 => ?_) (fun hc59 => ?_)
          · have hc59b := hc59
            try rw [Bool.not_eq_true'] at hc59
            try rw [Bool.not_eq_false'] at hc59
            try rw [decide_eq_true_eq] at hc59
            try rw [decide_eq_false_iff_not] at hc59
            try rw [Int.not_lt] at hc59
            try rw [Int.not_le] at hc59
            refine x_skip (kseq_normal ?_)
            refine x_seq ?_
            refine x_block ?_
            refine x_seq ?_
            refine x_region ?_
            refine xo_rn rfl (rn_fieldAddr tf24_2 rfl) ?_
            refine xo_rl rfl (rl_own (q := 0) tk22 rfl rfl rfl) ?_
            refine xo_rn rfl (rn_move rfl) ?_
            have hi' : i < ls.length := by omega
            obtain ⟨lc, hlc⟩ : ∃ lc, ls[i]? = some lc := ⟨_, List.getElem?_eq_getElem hi'⟩
            obtain ⟨b, off, k1, n1, l1, a1, cap1, rfl, rfl, hrd, hlv⟩ := hat i lc hlc
            refine xo_rn rfl (rn_indexAddr (q := i) tsl22 rfl rfl rfl hi') ?_
            refine xo_rl rfl (rl_memN tk24 rfl (hrd.mono (hle0.trans hle)) rfl) ?_
            refine xo_rn rfl (rn_move rfl) ?_
            refine xo_callS rfl cl33 (vs := [_, _]) rfl (ih _ (List.mem_of_getElem? hlc) _ _ _ (hlv.mono (hle0.trans hle))) ?_
            refine xo_rn rfl (rn_not rfl) ?_
            refine xo_nil (kseq_normal ?_)
            refine x_cond rfl (fun hc69 => ?_) (fun hc69 => ?_)
            · have hc69b := hc69
              try rw [Bool.not_eq_true'] at hc69
              try rw [Bool.not_eq_false'] at hc69
              try rw [decide_eq_true_eq] at hc69
              try rw [decide_eq_false_iff_not] at hc69
              try rw [Int.not_lt] at hc69
              try rw [Int.not_le] at hc69
              refine x_seq ?_
              refine x_region ?_
              refine xo_rn rfl (rn_assign rfl) ?_
              refine xo_nil (kseq_normal ?_)
              refine x_ret (kblock_ret (kseq_ret (kloop_ret (kblock_ret (kseq_ret ?_)))))
              refine ⟨rfl, [_], .cons (.tmp rfl) (.nil), fin_drop (μ' := []) (List.nil_sublist _) (fin_done (ret_tup1 ?_))⟩
              rw [drop_at hlc] at hall
              rw [allF, hnode, ← hall, allFs, hc69]
              rfl
            · have hc69b := hc69
              try rw [Bool.not_eq_true'] at hc69
              try rw [Bool.not_eq_false'] at hc69
              try rw [decide_eq_true_eq] at hc69
              try rw [decide_eq_false_iff_not] at hc69
              try rw [Int.not_lt] at hc69
              try rw [Int.not_le] at hc69
              refine x_skip (kblock_normal (kseq_normal ?_))
              refine x_region ?_
              refine xo_rn rfl (rn_move rfl) ?_
              refine xo_rn rfl (by first | exact rn_addN rfl rfl (by unfold i64; omega) | exact rn_add rfl rfl) ?_
              refine xo_rn rfl (rn_assign rfl) ?_
              refine xo_nil (kloop_normal ?_)
              refine ⟨i + 1, by omega, ⟨hi', ?_⟩, ⟨rfl, rfl, rfl, rfl, trivial⟩, .cons_cons _ (.refl _), rfl, hle⟩
              rw [← hall, drop_at hlc]
              simp [allFs, hc69]
          · have hc59b := hc59
            try rw [Bool.not_eq_true'] at hc59
            try rw [Bool.not_eq_false'] at hc59
            try rw [decide_eq_true_eq] at hc59
            try rw [decide_eq_false_iff_not] at hc59
            try rw [Int.not_lt] at hc59
            try rw [Int.not_le] at hc59
            refine x_exit (kseq_exit (kloop_exit (kblock_exit_here (kseq_normal ?_))))
            refine x_seq ?_
            refine x_region ?_
            refine xo_rn rfl (rn_assign rfl) ?_
            refine xo_nil (kseq_normal ?_)
            refine x_ret ?_
            refine ⟨rfl, [_], .cons (.tmp rfl) (.nil), fin_drop (μ' := []) (List.nil_sublist _) (fin_done (ret_tup1 ?_))⟩
            obtain rfl : i = ls.length := by omega
            rw [allF, hnode, ← hall, List.drop_length]
            rfl
      · replace hg50 := ne_f hg50
        have hg50_p := hg50
        try rw [Bool.not_eq_true'] at hg50_p
        try rw [Bool.not_eq_false'] at hg50_p
        try rw [decide_eq_true_eq] at hg50_p
        try rw [decide_eq_false_iff_not] at hg50_p
        try rw [Int.not_lt] at hg50_p
        try rw [Int.not_le] at hg50_p
        dsimp only [putU]
        refine xo_guard_no rfl rfl (by rw [hg50]; decide) rfl ?_
        refine xo_guard_no rfl rfl (by rw [hg50]; decide) rfl ?_
        refine xo_guard_no rfl rfl (by rw [hg50]; decide) rfl ?_
        refine xo_guard_no rfl rfl (by rw [hg50]; decide) rfl ?_
        refine xo_rn rfl (rn_pick_t rfl hg50 rfl) ?_
        refine xo_nil (kseq_normal ?_)
        refine x_cond_true rfl ?_
        refine x_seq ?_
        refine x_region ?_
        refine xo_rn rfl (rn_assign rfl) ?_
        refine xo_nil (kseq_normal ?_)
        refine x_ret (kseq_ret ?_)
        refine ⟨rfl, [_], .cons (.tmp rfl) (.nil), fin_drop (μ' := []) (List.nil_sublist _) (fin_done (ret_tup1 ?_))⟩
        have hw : nodeF (.mk k nn ls) p = false := by simp [nodeF, hk1, hk2, hg50_p]
        simp [allF, hw]

theorem rRight_spec (l : Lv) (p : Int) (m : Mem) (cs : List Value) (hl : LvV m l cs) : Scal Try.prog 14 #[.agg cs.toArray, .int .i64 p] m (.bool (rightF l p)) := by
  refine scal_of ?_
  have hl0 := hl
  have hnod : lnF l 64 = nodesF l := by rw [lnF_eq l 64 (by omega), nodesF_eq]; rfl
  obtain ⟨k, nn, ls, a, cap, rfl, rfl, hk, hn, hlen, hat⟩ := hl.open
  refine spec_body (vs := [_, _]) Try.func14 rfl Try.ntmps14 rfl (fun E => ?_)
  refine x_seq ?_
  refine x_region ?_
  refine xo_box rfl rfl (cs := [_, _, _]) rfl (fun b2 => ?_)
  refine xo_rn rfl (rn_assign rfl) ?_
  refine xo_nil (kseq_normal ?_)
  refine x_seq ?_
  refine x_region ?_
  refine xo_rn rfl (rn_move rfl) ?_
  refine xo_rn rfl (rn_geq rfl rfl) ?_
  refine xo_rn rfl (rn_move rfl) ?_
  refine xo_guard rfl rfl (fun hg7 => ?_) (fun hg7 => ?_) rfl
  · have hg7_p := hg7
    try rw [Bool.not_eq_true'] at hg7_p
    try rw [Bool.not_eq_false'] at hg7_p
    try rw [decide_eq_true_eq] at hg7_p
    try rw [decide_eq_false_iff_not] at hg7_p
    try rw [Int.not_lt] at hg7_p
    try rw [Int.not_le] at hg7_p
    refine xo_rn rfl (rn_move rfl) ?_
    refine xo_guard_yes rfl rfl hg7 ?_ rfl
    refine xo_rn rfl (rn_leq rfl rfl) ?_
    refine xo_rn rfl (rn_pick_t rfl hg7 rfl) ?_
    refine xo_rn rfl (rn_move rfl) ?_
    refine xo_guard rfl rfl (fun hg11 => ?_) (fun hg11 => ?_) rfl
    · have hg11_p := hg11
      try rw [Bool.not_eq_true'] at hg11_p
      try rw [Bool.not_eq_false'] at hg11_p
      try rw [decide_eq_true_eq] at hg11_p
      try rw [decide_eq_false_iff_not] at hg11_p
      try rw [Int.not_lt] at hg11_p
      try rw [Int.not_le] at hg11_p
      refine xo_rl rfl (rl_own (q := 0) (v := .agg #[_, _, _]) tk24 rfl rfl rfl) ?_
      refine xo_guard_yes rfl rfl hg11 ?_ rfl
      refine xo_callS rfl cl22 (vs := [_, _]) rfl (hnod ▸ LevelNodes_spec _ 64 _ _ hl0 (by omega) (by omega)) ?_
      refine xo_guard_yes rfl rfl hg11 ?_ rfl
      refine xo_rn rfl (rn_leq rfl rfl) ?_
      refine xo_rn rfl (rn_pick_t rfl hg11 rfl) ?_
      refine xo_rn rfl (rn_move rfl) ?_
      refine xo_guard rfl rfl (fun hg16 => ?_) (fun hg16 => ?_) rfl
      · have hg16_p := hg16
        try rw [Bool.not_eq_true'] at hg16_p
        try rw [Bool.not_eq_false'] at hg16_p
        try rw [decide_eq_true_eq] at hg16_p
        try rw [decide_eq_false_iff_not] at hg16_p
        try rw [Int.not_lt] at hg16_p
        try rw [Int.not_le] at hg16_p
        refine xo_rl rfl (rl_own (q := 0) (v := .agg #[_, _, _]) tk24 rfl rfl rfl) ?_
        refine xo_guard_yes rfl rfl hg16 ?_ rfl
        refine xo_rn rfl (rn_move rfl) ?_
        refine xo_guard_yes rfl rfl hg16 ?_ rfl
        refine xo_callS rfl cl33 (vs := [_, _]) rfl (rright_spec _ _ _ _ hl0) ?_
        refine xo_rn rfl (rn_pick_t rfl hg16 rfl) ?_
        refine xo_rn rfl (rn_assign rfl) ?_
        refine xo_nil (kseq_normal ?_)
        refine x_ret ?_
        refine ⟨rfl, [_], .cons (.tmp rfl) (.nil), fin_drop (μ' := []) (List.nil_sublist _) (fin_done (ret_tup1 ?_))⟩
        simp [rightF, *]
      · replace hg16 := ne_t hg16
        have hg16_p := hg16
        try rw [Bool.not_eq_true'] at hg16_p
        try rw [Bool.not_eq_false'] at hg16_p
        try rw [decide_eq_true_eq] at hg16_p
        try rw [decide_eq_false_iff_not] at hg16_p
        try rw [Int.not_lt] at hg16_p
        try rw [Int.not_le] at hg16_p
        dsimp only [putU]
        refine xo_guard_no rfl rfl (by rw [hg16]; decide) rfl ?_
        refine xo_guard_no rfl rfl (by rw [hg16]; decide) rfl ?_
        refine xo_rn rfl (rn_pick_f rfl hg16 rfl) ?_
        refine xo_rn rfl (rn_assign rfl) ?_
        refine xo_nil (kseq_normal ?_)
        refine x_ret ?_
        refine ⟨rfl, [_], .cons (.tmp rfl) (.nil), fin_drop (μ' := []) (List.nil_sublist _) (fin_done (ret_tup1 ?_))⟩
        simp [rightF, *]
    · replace hg11 := ne_t hg11
      have hg11_p := hg11
      try rw [Bool.not_eq_true'] at hg11_p
      try rw [Bool.not_eq_false'] at hg11_p
      try rw [decide_eq_true_eq] at hg11_p
      try rw [decide_eq_false_iff_not] at hg11_p
      try rw [Int.not_lt] at hg11_p
      try rw [Int.not_le] at hg11_p
      dsimp only [putU]
      refine xo_guard_no rfl rfl (by rw [hg11]; decide) rfl ?_
      refine xo_guard_no rfl rfl (by rw [hg11]; decide) rfl ?_
      refine xo_rn rfl (rn_pick_f rfl hg11 rfl) ?_
      refine xo_rn rfl (rn_move rfl) ?_
      refine xo_guard_no rfl rfl (by decide) rfl ?_
      refine xo_guard_no rfl rfl (by decide) rfl ?_
      refine xo_guard_no rfl rfl (by decide) rfl ?_
      refine xo_rn rfl (rn_pick_f rfl rfl rfl) ?_
      refine xo_rn rfl (rn_assign rfl) ?_
      refine xo_nil (kseq_normal ?_)
      refine x_ret ?_
      refine ⟨rfl, [_], .cons (.tmp rfl) (.nil), fin_drop (μ' := []) (List.nil_sublist _) (fin_done (ret_tup1 ?_))⟩
      simp [rightF, *]
  · replace hg7 := ne_t hg7
    have hg7_p := hg7
    try rw [Bool.not_eq_true'] at hg7_p
    try rw [Bool.not_eq_false'] at hg7_p
    try rw [decide_eq_true_eq] at hg7_p
    try rw [decide_eq_false_iff_not] at hg7_p
    try rw [Int.not_lt] at hg7_p
    try rw [Int.not_le] at hg7_p
    dsimp only [putU]
    refine xo_guard_no rfl rfl (by rw [hg7]; decide) rfl ?_
    refine xo_rn rfl (rn_pick_f rfl hg7 rfl) ?_
    refine xo_rn rfl (rn_move rfl) ?_
    refine xo_guard_no rfl rfl (by decide) rfl ?_
    refine xo_guard_no rfl rfl (by decide) rfl ?_
    refine xo_guard_no rfl rfl (by decide) rfl ?_
    refine xo_rn rfl (rn_pick_f rfl rfl rfl) ?_
    refine xo_rn rfl (rn_move rfl) ?_
    refine xo_guard_no rfl rfl (by decide) rfl ?_
    refine xo_guard_no rfl rfl (by decide) rfl ?_
    refine xo_guard_no rfl rfl (by decide) rfl ?_
    refine xo_rn rfl (rn_pick_f rfl rfl rfl) ?_
    refine xo_rn rfl (rn_assign rfl) ?_
    refine xo_nil (kseq_normal ?_)
    refine x_ret ?_
    refine ⟨rfl, [_], .cons (.tmp rfl) (.nil), fin_drop (μ' := []) (List.nil_sublist _) (fin_done (ret_tup1 ?_))⟩
    simp [rightF, *]

theorem rvalue_spec (l : Lv) : ∀ (vs : List Int) (m : Mem) (cs : List Value) (sv : Value), LvV m l cs → allF l 4 = true → sizeL l ≤ 100000 → IntsV m vs sv →
    Scal Try.prog 31 #[.agg cs.toArray, sv] m (.int .i64 (valF l (clampF vs))) := by
  induction l using Lv.ind with
  | _ k nn ls ih =>
    intro vs m cs sv hl hall hsz hv
    refine scal_of ?_
    have hv0 := hv
    have hf : ∀ i, 0 ≤ i → i < 4 → 0 ≤ clampF vs i ∧ clampF vs i ≤ 1048576 := fun i _ _ => clampF_bound vs i
    obtain ⟨_, _, _, a, cap, ⟨rfl, rfl, rfl⟩, rfl, hk, hn, hlen, hat⟩ := hl.open
    obtain ⟨va, vcap, rfl, hvc, hv64, hvat⟩ := hv
    refine spec_body (vs := [_, _]) Try.func31 rfl Try.ntmps31 rfl (fun E => ?_)
    refine x_seq ?_
    refine x_region ?_
    refine xo_box rfl rfl (cs := [_, _, _]) rfl (fun b2 => ?_)
    refine xo_rn rfl (rn_assign rfl) ?_
    refine xo_nil (kseq_normal ?_)
    refine x_seq ?_
    refine x_seq ?_
    refine x_region ?_
    refine xo_rn rfl (rn_fieldAddr tf24_0 rfl) ?_
    refine xo_rl rfl (rl_own (q := 0) tk3 rfl rfl rfl) ?_
    refine xo_nil (kseq_normal ?_)
    refine x_block ?_
    refine x_seq ?_
    refine x_region ?_
    refine xo_rn rfl (rn_eql rfl rfl) ?_
    refine xo_rn rfl (rn_assign rfl) ?_
    refine xo_nil (kseq_normal ?_)
    refine x_cond rfl (fun hc8 => ?_) (fun hc8 => ?_)
    · have hc8b := hc8
      try rw [Bool.not_eq_true'] at hc8
      try rw [Bool.not_eq_false'] at hc8
      try rw [decide_eq_true_eq] at hc8
      try rw [decide_eq_false_iff_not] at hc8
      try rw [Int.not_lt] at hc8
      try rw [Int.not_le] at hc8
      refine x_seq ?_
      refine x_region ?_
      refine xo_rn rfl (rn_fieldAddr tf24_1 rfl) ?_
      refine xo_rl rfl (rl_own (q := 0) tk3 rfl rfl rfl) ?_
      refine xo_rn rfl (rn_assign rfl) ?_
      refine xo_nil (kseq_normal ?_)
      refine x_ret (kblock_ret (kseq_ret ?_))
      refine ⟨rfl, [_], .cons (.tmp rfl) (.nil), fin_drop (μ' := []) (List.nil_sublist _) (fin_done (ret_tup1 ?_))⟩
      simp [valF, valNode, hc8]
    · have hc8b := hc8
      try rw [Bool.not_eq_true'] at hc8
      try rw [Bool.not_eq_false'] at hc8
      try rw [decide_eq_true_eq] at hc8
      try rw [decide_eq_false_iff_not] at hc8
      try rw [Int.not_lt] at hc8
      try rw [Int.not_le] at hc8
      refine x_seq ?_
      refine x_region ?_
      refine xo_rn rfl (rn_eql rfl rfl) ?_
      refine xo_rn rfl (rn_assign rfl) ?_
      refine xo_nil (kseq_normal ?_)
      refine x_cond rfl (fun hc12 => ?_) (fun hc12 => ?_)
      · have hc12b := hc12
        try rw [Bool.not_eq_true'] at hc12
        try rw [Bool.not_eq_false'] at hc12
        try rw [decide_eq_true_eq] at hc12
        try rw [decide_eq_false_iff_not] at hc12
        try rw [Int.not_lt] at hc12
        try rw [Int.not_le] at hc12
        refine x_seq ?_
        refine x_seq ?_
        refine x_region ?_
        refine xo_rn rfl (rn_fieldAddr tf24_1 rfl) ?_
        refine xo_rl rfl (rl_own (q := 0) tk3 rfl rfl rfl) ?_
        refine xo_rn rfl (rn_move rfl) ?_
        refine xo_rn rfl (rn_len_slice tsl25 rfl) ?_
        refine xo_rn rfl (rn_geq rfl rfl) ?_
        refine xo_rn rfl (rn_move rfl) ?_
        refine xo_guard rfl rfl (fun hg19 => ?_) (fun hg19 => ?_) rfl
        · have hg19_p := hg19
          try rw [Bool.not_eq_true'] at hg19_p
          try rw [Bool.not_eq_false'] at hg19_p
          try rw [decide_eq_true_eq] at hg19_p
          try rw [decide_eq_false_iff_not] at hg19_p
          try rw [Int.not_lt] at hg19_p
          try rw [Int.not_le] at hg19_p
          refine xo_rn rfl (rn_move rfl) ?_
          refine xo_guard_yes rfl rfl hg19 ?_ rfl
          refine xo_rn rfl (rn_fieldAddr tf24_1 rfl) ?_
          refine xo_guard_yes rfl rfl hg19 ?_ rfl
          refine xo_rl rfl (rl_own (q := 0) tk3 rfl rfl rfl) ?_
          refine xo_guard_yes rfl rfl hg19 ?_ rfl
          obtain ⟨h0, h4⟩ := all_param hall hc12
          obtain ⟨vi, hvi⟩ : ∃ vi, vs[nn.toNat]? = some vi := ⟨_, List.getElem?_eq_getElem (by omega)⟩
          obtain ⟨vb, voff, rfl, hrd⟩ := hvat _ vi hvi
          have hcl : clampF vs nn = min (max vi 0) 1048576 := by simp [clampF, hvi]
          refine xo_rn rfl (rn_indexAddr (q := nn.toNat) tsl25 rfl rfl (by omega) (by omega)) ?_
          refine xo_guard_yes rfl rfl hg19 ?_ rfl
          refine xo_rl rfl (rl_mem1 tk3 rfl (hrd)) ?_
          refine xo_guard_yes rfl rfl hg19 ?_ rfl
          refine xo_rn rfl (rn_lss rfl rfl) ?_
          refine xo_rn rfl (rn_pick_f rfl hg19 rfl) ?_
          refine xo_nil (kseq_normal ?_)
          refine x_cond rfl (fun hc26 => ?_) (fun hc26 => ?_)
          · have hc26b := hc26
            try rw [Bool.not_eq_true'] at hc26
            try rw [Bool.not_eq_false'] at hc26
            try rw [decide_eq_true_eq] at hc26
            try rw [decide_eq_false_iff_not] at hc26
            try rw [Int.not_lt] at hc26
            try rw [Int.not_le] at hc26
            refine x_seq ?_
            refine x_region ?_
            refine xo_rn rfl (rn_assign rfl) ?_
            refine xo_nil (kseq_normal ?_)
            refine x_ret (kseq_ret (kblock_ret (kseq_ret ?_)))
            refine ⟨rfl, [_], .cons (.tmp rfl) (.nil), fin_drop (μ' := []) (List.nil_sublist _) (fin_done (ret_tup1 ?_))⟩
            subst hc12
            rw [valF_param, hcl]
            congr 1
            omega
          · have hc26b := hc26
            try rw [Bool.not_eq_true'] at hc26
            try rw [Bool.not_eq_false'] at hc26
            try rw [decide_eq_true_eq] at hc26
            try rw [decide_eq_false_iff_not] at hc26
            try rw [Int.not_lt] at hc26
            try rw [Int.not_le] at hc26
            refine x_skip (kseq_normal ?_)
            refine x_seq ?_
            refine x_region ?_
            refine xo_rn rfl (rn_move rfl) ?_
            refine xo_rn rfl (rn_fieldAddr tf24_1 rfl) ?_
            refine xo_rl rfl (rl_own (q := 0) tk3 rfl rfl rfl) ?_
            refine xo_rn rfl (rn_indexAddr (q := nn.toNat) tsl25 rfl rfl (by omega) (by omega)) ?_
            refine xo_rl rfl (rl_mem1 tk3 rfl (hrd)) ?_
            refine xo_rn rfl (rn_min rfl rfl) ?_
            refine xo_rn rfl (rn_assign rfl) ?_
            refine xo_nil (kseq_normal ?_)
            refine x_ret (kblock_ret (kseq_ret ?_))
            refine ⟨rfl, [_], .cons (.tmp rfl) (.nil), fin_drop (μ' := []) (List.nil_sublist _) (fin_done (ret_tup1 ?_))⟩
            subst hc12
            rw [valF_param, hcl]
            congr 1
            omega
        · replace hg19 := ne_f hg19
          have hg19_p := hg19
          try rw [Bool.not_eq_true'] at hg19_p
          try rw [Bool.not_eq_false'] at hg19_p
          try rw [decide_eq_true_eq] at hg19_p
          try rw [decide_eq_false_iff_not] at hg19_p
          try rw [Int.not_lt] at hg19_p
          try rw [Int.not_le] at hg19_p
          dsimp only [putU]
          refine xo_guard_no rfl rfl (by rw [hg19]; decide) rfl ?_
          refine xo_guard_no rfl rfl (by rw [hg19]; decide) rfl ?_
          refine xo_guard_no rfl rfl (by rw [hg19]; decide) rfl ?_
          refine xo_guard_no rfl rfl (by rw [hg19]; decide) rfl ?_
          refine xo_guard_no rfl rfl (by rw [hg19]; decide) rfl ?_
          refine xo_rn rfl (rn_pick_t rfl hg19 rfl) ?_
          refine xo_nil (kseq_normal ?_)
          refine x_cond_true rfl ?_
          refine x_seq ?_
          refine x_region ?_
          refine xo_rn rfl (rn_assign rfl) ?_
          refine xo_nil (kseq_normal ?_)
          refine x_ret (kseq_ret (kblock_ret (kseq_ret ?_)))
          refine ⟨rfl, [_], .cons (.tmp rfl) (.nil), fin_drop (μ' := []) (List.nil_sublist _) (fin_done (ret_tup1 ?_))⟩
          obtain ⟨h0, h4⟩ := all_param hall hc12
          have hcl : clampF vs nn = 0 := by simp [clampF]; rw [List.getElem?_eq_none (by omega)]
          subst hc12
          rw [valF_param, hcl]
      · have hc12b := hc12
        try rw [Bool.not_eq_true'] at hc12
        try rw [Bool.not_eq_false'] at hc12
        try rw [decide_eq_true_eq] at hc12
        try rw [decide_eq_false_iff_not] at hc12
        try rw [Int.not_lt] at hc12
        try rw [Int.not_le] at hc12
        refine x_seq ?_
        refine x_region ?_
        refine xo_rn rfl (rn_eql rfl rfl) ?_
        refine xo_rn rfl (rn_assign rfl) ?_
        refine xo_nil (kseq_normal ?_)
        refine x_cond rfl (fun hc33 => ?_) (fun hc33 => ?_)
        · have hc33b := hc33
          try rw [Bool.not_eq_true'] at hc33
          try rw [Bool.not_eq_false'] at hc33
          try rw [decide_eq_true_eq] at hc33
          try rw [decide_eq_false_iff_not] at hc33
          try rw [Int.not_lt] at hc33
          try rw [Int.not_le] at hc33
          refine x_seq ?_
          refine x_region ?_
          refine xo_rn rfl (rn_fieldAddr tf24_2 rfl) ?_
          refine xo_rl rfl (rl_own (q := 0) tk22 rfl rfl rfl) ?_
          obtain ⟨x, rfl⟩ := all_succ hall hc33
          obtain ⟨b, off, k1, n1, l1, a1, cap1, rfl, rfl, hrd, hlv⟩ := hat 0 x rfl
          have hlt : 0 < [Lv.mk k1 n1 l1].length := by simp
          refine xo_rn rfl (rn_indexAddr (q := 0) tsl22 rfl rfl rfl hlt) ?_
          refine xo_rl rfl (rl_memN tk24 rfl (hrd) rfl) ?_
          refine xo_rn rfl (rn_move rfl) ?_
          have hax := all_arg hall (i := 0) rfl
          have hsx := size_arg hsz (i := 0) rfl
          have hvb := valF_bound _ (clampF vs) hax hf
          refine xo_callS rfl cl31 (vs := [_, _]) rfl (ih _ (by simp) vs m _ _ hlv hax hsx hv0) ?_
          refine xo_rn rfl (by first | exact rn_addN rfl rfl (by unfold i64; omega) | exact rn_add rfl rfl) ?_
          refine xo_rn rfl (rn_assign rfl) ?_
          refine xo_nil (kseq_normal ?_)
          refine x_ret (kblock_ret (kseq_ret ?_))
          refine ⟨rfl, [_], .cons (.tmp rfl) (.nil), fin_drop (μ' := []) (List.nil_sublist _) (fin_done (ret_tup1 ?_))⟩
          subst hc33
          rw [valF_mk1]
        · have hc33b := hc33
          try rw [Bool.not_eq_true'] at hc33
          try rw [Bool.not_eq_false'] at hc33
          try rw [decide_eq_true_eq] at hc33
          try rw [decide_eq_false_iff_not] at hc33
          try rw [Int.not_lt] at hc33
          try rw [Int.not_le] at hc33
          refine x_skip (kblock_normal (kseq_normal ?_))
          refine x_seq ?_
          refine x_region ?_
          refine xo_rn rfl (rn_fieldAddr tf24_2 rfl) ?_
          refine xo_rl rfl (rl_own (q := 0) tk22 rfl rfl rfl) ?_
          obtain ⟨x, y, rfl⟩ := all_two hall hc8 hc12 hc33
          obtain ⟨b, off, k2, n2, l2, a2, cap2, rfl, rfl, hrd2, hlv2⟩ := hat 1 y rfl
          obtain ⟨_, _, k1, n1, l1, a1, cap1, heq, rfl, hrd, hlv⟩ := hat 0 x rfl
          cases heq
          have hlt : 1 < [Lv.mk k1 n1 l1, Lv.mk k2 n2 l2].length := by simp
          have hlt0 : 0 < [Lv.mk k1 n1 l1, Lv.mk k2 n2 l2].length := by simp
          refine xo_rn rfl (rn_indexAddr (q := 1) tsl22 rfl rfl rfl hlt) ?_
          refine xo_rl rfl (rl_memN tk24 rfl (hrd2) rfl) ?_
          refine xo_rn rfl (rn_move rfl) ?_
          refine xo_callS rfl cl31 (vs := [_, _]) rfl (ih _ (by simp) vs m _ _ hlv2 (all_arg hall (i := 1) rfl) (size_arg hsz (i := 1) rfl) hv0) ?_
          refine xo_rn rfl (rn_assign rfl) ?_
          refine xo_nil (kseq_normal ?_)
          refine x_seq ?_
          refine x_seq ?_
          refine x_region ?_
          refine xo_rn rfl (rn_fieldAddr tf24_0 rfl) ?_
          refine xo_rl rfl (rl_own (q := 0) tk3 rfl rfl rfl) ?_
          refine xo_rn rfl (rn_eql rfl rfl) ?_
          refine xo_rn rfl (rn_move rfl) ?_
          refine xo_guard rfl rfl (fun hg51 => ?_) (fun hg51 => ?_) rfl
          · have hg51_p := hg51
            try rw [Bool.not_eq_true'] at hg51_p
            try rw [Bool.not_eq_false'] at hg51_p
            try rw [decide_eq_true_eq] at hg51_p
            try rw [decide_eq_false_iff_not] at hg51_p
            try rw [Int.not_lt] at hg51_p
            try rw [Int.not_le] at hg51_p
            refine xo_rn rfl (rn_move rfl) ?_
            refine xo_guard_yes rfl rfl hg51 ?_ rfl
            refine xo_rn rfl (rn_eql rfl rfl) ?_
            refine xo_rn rfl (rn_pick_t rfl hg51 rfl) ?_
            refine xo_nil (kseq_normal ?_)
            refine x_cond rfl (fun hc54 => ?_) (fun hc54 => ?_)
            · have hc54b := hc54
              try rw [Bool.not_eq_true'] at hc54
              try rw [Bool.not_eq_false'] at hc54
              try rw [decide_eq_true_eq] at hc54
              try rw [decide_eq_false_iff_not] at hc54
              try rw [Int.not_lt] at hc54
              try rw [Int.not_le] at hc54
              refine x_seq ?_
              refine x_region ?_
              refine xo_rn rfl (rn_assign rfl) ?_
              refine xo_nil (kseq_normal ?_)
              refine x_ret (kseq_ret ?_)
              refine ⟨rfl, [_], .cons (.tmp rfl) (.nil), fin_drop (μ' := []) (List.nil_sublist _) (fin_done (ret_tup1 ?_))⟩
              rw [valF_mk2 hc8 hc12 hc33, if_pos ⟨hg51_p, hc54⟩]
            · have hc54b := hc54
              try rw [Bool.not_eq_true'] at hc54
              try rw [Bool.not_eq_false'] at hc54
              try rw [decide_eq_true_eq] at hc54
              try rw [decide_eq_false_iff_not] at hc54
              try rw [Int.not_lt] at hc54
              try rw [Int.not_le] at hc54
              refine x_skip (kseq_normal ?_)
              refine x_seq ?_
              refine x_region ?_
              refine xo_rn rfl (rn_fieldAddr tf24_2 rfl) ?_
              refine xo_rl rfl (rl_own (q := 0) tk22 rfl rfl rfl) ?_
              refine xo_rn rfl (rn_indexAddr (q := 0) tsl22 rfl rfl rfl hlt0) ?_
              refine xo_rl rfl (rl_memN tk24 rfl (hrd) rfl) ?_
              refine xo_rn rfl (rn_move rfl) ?_
              refine xo_callS rfl cl31 (vs := [_, _]) rfl (ih _ (by simp) vs m _ _ hlv (all_arg hall (i := 0) rfl) (size_arg hsz (i := 0) rfl) hv0) ?_
              refine xo_rn rfl (rn_move rfl) ?_
              refine xo_rn rfl (rn_max rfl rfl) ?_
              refine xo_rn rfl (rn_assign rfl) ?_
              refine xo_nil (kseq_normal ?_)
              refine x_ret ?_
              refine ⟨rfl, [_], .cons (.tmp rfl) (.nil), fin_drop (μ' := []) (List.nil_sublist _) (fin_done (ret_tup1 ?_))⟩
              rw [valF_mk2 hc8 hc12 hc33, if_neg (fun h => hc54 h.2)]
          · replace hg51 := ne_t hg51
            have hg51_p := hg51
            try rw [Bool.not_eq_true'] at hg51_p
            try rw [Bool.not_eq_false'] at hg51_p
            try rw [decide_eq_true_eq] at hg51_p
            try rw [decide_eq_false_iff_not] at hg51_p
            try rw [Int.not_lt] at hg51_p
            try rw [Int.not_le] at hg51_p
            dsimp only [putU]
            refine xo_guard_no rfl rfl (by rw [hg51]; decide) rfl ?_
            refine xo_rn rfl (rn_pick_f rfl hg51 rfl) ?_
            refine xo_nil (kseq_normal ?_)
            refine x_cond_false rfl ?_
            refine x_skip (kseq_normal ?_)
            refine x_seq ?_
            refine x_region ?_
            refine xo_rn rfl (rn_fieldAddr tf24_2 rfl) ?_
            refine xo_rl rfl (rl_own (q := 0) tk22 rfl rfl rfl) ?_
            refine xo_rn rfl (rn_indexAddr (q := 0) tsl22 rfl rfl rfl hlt0) ?_
            refine xo_rl rfl (rl_memN tk24 rfl (hrd) rfl) ?_
            refine xo_rn rfl (rn_move rfl) ?_
            refine xo_callS rfl cl31 (vs := [_, _]) rfl (ih _ (by simp) vs m _ _ hlv (all_arg hall (i := 0) rfl) (size_arg hsz (i := 0) rfl) hv0) ?_
            refine xo_rn rfl (rn_move rfl) ?_
            refine xo_rn rfl (rn_max rfl rfl) ?_
            refine xo_rn rfl (rn_assign rfl) ?_
            refine xo_nil (kseq_normal ?_)
            refine x_ret ?_
            refine ⟨rfl, [_], .cons (.tmp rfl) (.nil), fin_drop (μ' := []) (List.nil_sublist _) (fin_done (ret_tup1 ?_))⟩
            rw [valF_mk2 hc8 hc12 hc33, if_neg (fun h => hg51_p h.1)]

theorem rValue_spec (l : Lv) (vs : List Int) (m : Mem) (cs : List Value) (sv : Value) (hl : LvV m l cs) (hv : IntsV m vs sv) : Scal Try.prog 16 #[.agg cs.toArray, sv] m (.int .i64 (valueF l vs)) := by
  refine scal_of ?_
  have hl0 := hl
  obtain ⟨k, nn, ls, a, cap, rfl, rfl, hk, hn, hlen, hat⟩ := hl.open
  refine spec_body (vs := [_, _]) Try.func16 rfl Try.ntmps16 rfl (fun E => ?_)
  refine x_seq ?_
  refine x_region ?_
  refine xo_box rfl rfl (cs := [_, _, _]) rfl (fun b2 => ?_)
  refine xo_rn rfl (rn_assign rfl) ?_
  refine xo_nil (kseq_normal ?_)
  refine x_seq ?_
  refine x_seq ?_
  refine x_region ?_
  refine xo_rl rfl (rl_own (q := 0) (v := .agg #[_, _, _]) tk24 rfl rfl rfl) ?_
  refine xo_callS rfl cl14 (vs := [_, _]) rfl (rRight_spec _ _ _ _ hl0) ?_
  refine xo_rn rfl (rn_not rfl) ?_
  refine xo_nil (kseq_normal ?_)
  refine x_cond rfl (fun hc7 => ?_) (fun hc7 => ?_)
  · have hc7b := hc7
    try rw [Bool.not_eq_true'] at hc7
    try rw [Bool.not_eq_false'] at hc7
    try rw [decide_eq_true_eq] at hc7
    try rw [decide_eq_false_iff_not] at hc7
    try rw [Int.not_lt] at hc7
    try rw [Int.not_le] at hc7
    refine x_seq ?_
    refine x_region ?_
    refine xo_rn rfl (rn_assign rfl) ?_
    refine xo_nil (kseq_normal ?_)
    refine x_ret (kseq_ret ?_)
    refine ⟨rfl, [_], .cons (.tmp rfl) (.nil), fin_drop (μ' := []) (List.nil_sublist _) (fin_done (ret_tup1 ?_))⟩
    simp [valueF, hc7]
  · have hc7b := hc7
    try rw [Bool.not_eq_true'] at hc7
    try rw [Bool.not_eq_false'] at hc7
    try rw [decide_eq_true_eq] at hc7
    try rw [decide_eq_false_iff_not] at hc7
    try rw [Int.not_lt] at hc7
    try rw [Int.not_le] at hc7
    refine x_skip (kseq_normal ?_)
    refine x_seq ?_
    refine x_region ?_
    refine xo_rl rfl (rl_own (q := 0) (v := .agg #[_, _, _]) tk24 rfl rfl rfl) ?_
    refine xo_rn rfl (rn_move rfl) ?_
    refine xo_callS rfl cl31 (vs := [_, _]) rfl (rvalue_spec _ vs _ _ _ hl0 (right_all hc7) (right_size hc7) hv) ?_
    refine xo_rn rfl (rn_assign rfl) ?_
    refine xo_nil (kseq_normal ?_)
    refine x_ret ?_
    refine ⟨rfl, [_], .cons (.tmp rfl) (.nil), fin_drop (μ' := []) (List.nil_sublist _) (fin_done (ret_tup1 ?_))⟩
    simp [valueF, hc7]

theorem steps_spec (m : Mem) : Cspec Try.prog 30 #[] m [] (Ret fun v m' _ => IntsV m' [0, 1, 1000] v) := by
  refine spec_body (vs := []) Try.func30 rfl Try.ntmps30 rfl (fun E => ?_)
  refine x_seq ?_
  refine x_region ?_
  refine xo_rn rfl (rn_assign rfl) ?_
  refine xo_nil (kseq_normal ?_)
  refine x_seq ?_
  refine x_region ?_
  refine xo_buildSlice (pv := [(_, _), (_, _), (_, _)]) (zs := [_, _, _]) (cs := [_, _, _]) rfl tsl25 tz3 rfl rfl rfl rfl (fun b1 => ?_)
  refine xo_rn rfl (rn_assign rfl) ?_
  refine xo_nil (kseq_normal ?_)
  refine x_ret ?_
  refine ⟨rfl, [_], .cons (.tmp rfl) .nil, ?_⟩
  refine fin_blk (q := 0) rfl (fun m2 hle2 hm2 => ?_)
  exact fin_done (ret_tup1 (IntsV.of_blk (vs := [0, 1, 1000]) hm2 (by simp)))

end Go.Proofs.Ytagilgmgacpffaa

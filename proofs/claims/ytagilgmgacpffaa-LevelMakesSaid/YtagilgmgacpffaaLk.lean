/-
  The law LevelMakes: its walk.
-/
import Derived.Test.YtagilgmgacpffaaLo
namespace Go.Proofs.Ytagilgmgacpffaa
open Go Go.Gw

set_option maxHeartbeats 4000000 in
theorem LevelMakes_spec (x y z : Lv) (vs : List Int) (m : Mem) (cx cy cz : List Value) (sv : Value) (hx : LvV m x cx) (hy : LvV m y cy) (hz : LvV m z cz) (hs : IntsV m vs sv) :
    Scal Try.prog 6 #[.agg cx.toArray, .agg cy.toArray, .agg cz.toArray, sv] m (.bool true) := by
  refine scal_of ?_
  have hx0 := hx
  have hy0 := hy
  have hz0 := hz
  have hs0 := hs
  obtain ⟨kx, nx, lx, ax, capx, ex, rfl, -, -, -, -⟩ := hx.open
  obtain ⟨ky, ny, ly, ay, capy, ey, rfl, -, -, -, -⟩ := hy.open
  obtain ⟨kz, nz, lz, az, capz, ez, rfl, -, -, -, -⟩ := hz.open
  obtain ⟨a, cap, rfl, hcap, hlen, hat⟩ := hs
  clear hat hx hy hz
  have nbx := nodesF_bound x
  have nby := nodesF_bound y
  have nex := nodesF_eq x
  have ney := nodesF_eq y
  have vbx := valueF_bound x vs
  refine spec_body (vs := [_, _, _, _]) Try.func6 rfl Try.ntmps6 rfl (fun E => ?_)
  refine x_seq ?_
  refine x_region ?_
  refine xo_box rfl rfl (cs := [_, _, _]) rfl (fun b4 => ?_)
  refine xo_box rfl rfl (cs := [_, _, _]) rfl (fun b5 => ?_)
  refine xo_box rfl rfl (cs := [_, _, _]) rfl (fun b6 => ?_)
  refine xo_rn rfl (rn_assign rfl) ?_
  refine xo_nil (kseq_normal ?_)
  refine x_seq ?_
  refine x_seq ?_
  refine x_region ?_
  refine xo_callS rfl cl8 (vs := []) rfl (alive_spec _) ?_
  refine xo_rn rfl (rn_not rfl) ?_
  refine xo_nil (kseq_normal ?_)
  refine x_cond_false rfl ?_
  refine x_skip (kseq_normal ?_)
  refine x_seq ?_
  refine x_seq ?_
  refine x_cut (G := Bool) (fun g => [(3, .slice a vs.length cap), (4, .pointer (some ⟨b4, 0, none⟩)), (5, .pointer (some ⟨b5, 0, none⟩)), (6, .pointer (some ⟨b6, 0, none⟩)), (31, .bool g)])
    (fun _ => [bx b6 24 [.int .i64 kz, .int .i64 nz, .slice az lz.length capz], bx b5 24 [.int .i64 ky, .int .i64 ny, .slice ay ly.length capy], bx b4 24 [.int .i64 kx, .int .i64 nx, .slice ax lx.length capx]]) (fun _ m' => m = m') ?_ ?_
  · refine x_region ?_
    refine xo_rl rfl (rl_own (q := 2) (v := .agg #[_, _, _]) tk24 rfl rfl rfl) ?_
    refine xo_callS rfl cl9 (vs := [_]) rfl (great_spec _ _ _ hx0) ?_
    refine xo_rn rfl (rn_move rfl) ?_
    refine xo_guard rfl rfl (fun hg19 => ?_) (fun hg19 => ?_) rfl
    · have hg19_p := hg19
      try rw [Bool.not_eq_true'] at hg19_p
      try rw [Bool.not_eq_false'] at hg19_p
      try rw [decide_eq_true_eq] at hg19_p
      try rw [decide_eq_false_iff_not] at hg19_p
      try rw [Int.not_lt] at hg19_p
      try rw [Int.not_le] at hg19_p
      refine xo_rl rfl (rl_own (q := 1) (v := .agg #[_, _, _]) tk24 rfl rfl rfl) ?_
      refine xo_guard_yes rfl rfl hg19 ?_ rfl
      refine xo_callS rfl cl9 (vs := [_]) rfl (great_spec _ _ _ hy0) ?_
      refine xo_rn rfl (rn_pick_f rfl hg19 rfl) ?_
      refine xo_rn rfl (rn_move rfl) ?_
      refine xo_guard rfl rfl (fun hg23 => ?_) (fun hg23 => ?_) rfl
      · have hg23_p := hg23
        try rw [Bool.not_eq_true'] at hg23_p
        try rw [Bool.not_eq_false'] at hg23_p
        try rw [decide_eq_true_eq] at hg23_p
        try rw [decide_eq_false_iff_not] at hg23_p
        try rw [Int.not_lt] at hg23_p
        try rw [Int.not_le] at hg23_p
        refine xo_rl rfl (rl_own (q := 0) (v := .agg #[_, _, _]) tk24 rfl rfl rfl) ?_
        refine xo_guard_yes rfl rfl hg23 ?_ rfl
        refine xo_callS rfl cl9 (vs := [_]) rfl (great_spec _ _ _ hz0) ?_
        refine xo_rn rfl (rn_pick_f rfl hg23 rfl) ?_
        refine xo_rn rfl (rn_move rfl) ?_
        refine xo_guard rfl rfl (fun hg27 => ?_) (fun hg27 => ?_) rfl
        · have hg27_p := hg27
          try rw [Bool.not_eq_true'] at hg27_p
          try rw [Bool.not_eq_false'] at hg27_p
          try rw [decide_eq_true_eq] at hg27_p
          try rw [decide_eq_false_iff_not] at hg27_p
          try rw [Int.not_lt] at hg27_p
          try rw [Int.not_le] at hg27_p
          refine xo_rn rfl (rn_move rfl) ?_
          refine xo_guard_yes rfl rfl hg27 ?_ rfl
          refine xo_rn rfl (rn_len_slice tsl25 rfl) ?_
          refine xo_guard_yes rfl rfl hg27 ?_ rfl
          refine xo_rn rfl (rn_gtr rfl rfl) ?_
          refine xo_rn rfl (rn_pick_f rfl hg27 rfl) ?_
          refine xo_nil (kcut_normal ?_)
          exact ⟨_, rfl, ⟨rfl, rfl, rfl, rfl, rfl, trivial⟩, .cons_cons _ (.cons_cons _ (.cons_cons _ (.refl _))), rfl, Mem.le.refl _⟩
        · replace hg27 := ne_f hg27
          have hg27_p := hg27
          try rw [Bool.not_eq_true'] at hg27_p
          try rw [Bool.not_eq_false'] at hg27_p
          try rw [decide_eq_true_eq] at hg27_p
          try rw [decide_eq_false_iff_not] at hg27_p
          try rw [Int.not_lt] at hg27_p
          try rw [Int.not_le] at hg27_p
          dsimp only [putU]
          refine xo_guard_no rfl rfl (by rw [hg27]; decide) rfl ?_
          refine xo_guard_no rfl rfl (by rw [hg27]; decide) rfl ?_
          refine xo_rn rfl (rn_pick_t rfl hg27 rfl) ?_
          refine xo_nil (kcut_normal ?_)
          exact ⟨_, rfl, ⟨rfl, rfl, rfl, rfl, rfl, trivial⟩, .cons_cons _ (.cons_cons _ (.cons_cons _ (.refl _))), rfl, Mem.le.refl _⟩
      · replace hg23 := ne_f hg23
        have hg23_p := hg23
        try rw [Bool.not_eq_true'] at hg23_p
        try rw [Bool.not_eq_false'] at hg23_p
        try rw [decide_eq_true_eq] at hg23_p
        try rw [decide_eq_false_iff_not] at hg23_p
        try rw [Int.not_lt] at hg23_p
        try rw [Int.not_le] at hg23_p
        dsimp only [putU]
        refine xo_guard_no rfl rfl (by rw [hg23]; decide) rfl ?_
        refine xo_rn rfl (rn_pick_t rfl hg23 rfl) ?_
        refine xo_rn rfl (rn_move rfl) ?_
        refine xo_guard_no rfl rfl (by decide) rfl ?_
        refine xo_guard_no rfl rfl (by decide) rfl ?_
        refine xo_guard_no rfl rfl (by decide) rfl ?_
        refine xo_rn rfl (rn_pick_t rfl rfl rfl) ?_
        refine xo_nil (kcut_normal ?_)
        exact ⟨_, rfl, ⟨rfl, rfl, rfl, rfl, rfl, trivial⟩, .cons_cons _ (.cons_cons _ (.cons_cons _ (.refl _))), rfl, Mem.le.refl _⟩
    · replace hg19 := ne_f hg19
      have hg19_p := hg19
      try rw [Bool.not_eq_true'] at hg19_p
      try rw [Bool.not_eq_false'] at hg19_p
      try rw [decide_eq_true_eq] at hg19_p
      try rw [decide_eq_false_iff_not] at hg19_p
      try rw [Int.not_lt] at hg19_p
      try rw [Int.not_le] at hg19_p
      dsimp only [putU]
      refine xo_guard_no rfl rfl (by rw [hg19]; decide) rfl ?_
      refine xo_rn rfl (rn_pick_t rfl hg19 rfl) ?_
      refine xo_rn rfl (rn_move rfl) ?_
      refine xo_guard_no rfl rfl (by decide) rfl ?_
      refine xo_guard_no rfl rfl (by decide) rfl ?_
      refine xo_rn rfl (rn_pick_t rfl rfl rfl) ?_
      refine xo_rn rfl (rn_move rfl) ?_
      refine xo_guard_no rfl rfl (by decide) rfl ?_
      refine xo_guard_no rfl rfl (by decide) rfl ?_
      refine xo_guard_no rfl rfl (by decide) rfl ?_
      refine xo_rn rfl (rn_pick_t rfl rfl rfl) ?_
      refine xo_nil (kcut_normal ?_)
      exact ⟨_, rfl, ⟨rfl, rfl, rfl, rfl, rfl, trivial⟩, .cons_cons _ (.cons_cons _ (.cons_cons _ (.refl _))), rfl, Mem.le.refl _⟩
  · rintro _ _ rfl hle
    refine kseq_normal ?_
    refine x_cond rfl (fun hc31 => ?_) (fun hc31 => ?_)
    · have hc31b := hc31
      try rw [Bool.not_eq_true'] at hc31
      try rw [Bool.not_eq_false'] at hc31
      try rw [decide_eq_true_eq] at hc31
      try rw [decide_eq_false_iff_not] at hc31
      try rw [Int.not_lt] at hc31
      try rw [Int.not_le] at hc31
      refine x_seq ?_
      refine x_region ?_
      refine xo_rn rfl (rn_assign rfl) ?_
      refine xo_nil (kseq_normal ?_)
      refine x_ret (kseq_ret ?_)
      refine ⟨rfl, [_], .cons (.tmp rfl) (.nil), fin_drop (μ' := []) (List.nil_sublist _) (fin_done (ret_tup1 ?_))⟩
      rfl
    · have hc31b := hc31
      try rw [Bool.not_eq_true'] at hc31
      try rw [Bool.not_eq_false'] at hc31
      try rw [decide_eq_true_eq] at hc31
      try rw [decide_eq_false_iff_not] at hc31
      try rw [Int.not_lt] at hc31
      try rw [Int.not_le] at hc31
      refine x_skip (kseq_normal ?_)
      refine x_seq ?_
      refine x_seq ?_
      refine x_cut (G := Bool) (fun g => [(3, .slice a vs.length cap), (4, .pointer (some ⟨b4, 0, none⟩)), (5, .pointer (some ⟨b5, 0, none⟩)), (6, .pointer (some ⟨b6, 0, none⟩)), (52, .bool g)])
        (fun _ => [bx b6 24 [.int .i64 kz, .int .i64 nz, .slice az lz.length capz], bx b5 24 [.int .i64 ky, .int .i64 ny, .slice ay ly.length capy], bx b4 24 [.int .i64 kx, .int .i64 nx, .slice ax lx.length capx]])
        (fun g m' => m = m' ∧ (g = false → rightF x 4 = true ∧ rightF y 4 = true ∧ rightF z 4 = true ∧ sizeL x + sizeL y ≤ 60)) ?_ ?_
      · refine x_env (ρ' := [(3, _), (4, _), (5, _), (6, _), (31, _)]) ⟨rfl, rfl, rfl, rfl, rfl, trivial⟩ ?_
        refine x_region_draw (by kernel_rfl) ?_
        refine xa_l (by kernel_rfl) 0 32 [4] rfl rfl rfl rfl rfl rfl rfl (pvl_none (rl_own (q := 2) (v := .agg #[_, _, _]) tk24 rfl rfl rfl)) ?_
        refine xa_effect (by kernel_rfl) 1 rfl rfl (by kernel_rfl) [0] (by kernel_rfl) rfl (pp' := []) (pl' := []) (hid := []) rfl rfl rfl ?_
        refine xo_callS rfl cl13 (vs := [_, _]) rfl (Right_spec _ _ _ _ hx0) ?_
        refine xo_nil ⟨⟨_, rfl⟩, fun _ hp => (by cases hp), ?_⟩
        refine xa_env (ρ' := [(33, _), (32, _), (3, _), (4, _), (5, _), (6, _), (31, _)]) rfl ?_
        refine xa_p (by kernel_rfl) 2 34 [33] rfl rfl rfl rfl rfl rfl rfl (pv_none (rn_not rfl)) ?_
        refine xa_p (by kernel_rfl) 3 35 [34] rfl rfl rfl rfl rfl rfl rfl (pv_none (rn_move rfl)) ?_
        refine xa_split (t := 35) rfl (fun hg35 => ?_) (fun hg35 => ?_)
        · have hg35_p := hg35
          try rw [Bool.not_eq_true'] at hg35_p
          try rw [Bool.not_eq_false'] at hg35_p
          try rw [decide_eq_true_eq] at hg35_p
          try rw [decide_eq_false_iff_not] at hg35_p
          try rw [Int.not_lt] at hg35_p
          try rw [Int.not_le] at hg35_p
          refine xa_p (by kernel_rfl) 4 36 [5, 35] rfl rfl rfl rfl rfl rfl rfl (pv_skip rfl rfl (by rw [hg35]; decide)) ?_
          refine xa_effect (by kernel_rfl) 5 rfl rfl (by kernel_rfl) [4, 3, 2, 1, 0] (by kernel_rfl) rfl (pp' := []) (pl' := []) (hid := []) rfl rfl rfl ?_
          refine xo_guard_no rfl rfl (by rw [hg35]; decide) rfl ?_
          refine xo_nil ⟨⟨_, rfl⟩, fun _ hp => (by cases hp), ?_⟩
          refine xa_env (ρ' := [(37, _), (36, _), (35, _), (34, _), (33, _), (32, _), (3, _), (4, _), (5, _), (6, _), (31, _)]) rfl ?_
          refine xa_p (by kernel_rfl) 6 38 [37, 35] rfl rfl rfl rfl rfl rfl rfl (pv_skip rfl rfl (by rw [hg35]; decide)) ?_
          refine xa_p (by kernel_rfl) 7 39 [35, 38] rfl rfl rfl rfl rfl rfl rfl (pv_none (rn_pick_t rfl hg35 rfl)) ?_
          refine xa_p (by kernel_rfl) 8 40 [39] rfl rfl rfl rfl rfl rfl rfl (pv_none (rn_move rfl)) ?_
          refine xa_p (by kernel_rfl) 9 41 [6, 40] rfl rfl rfl rfl rfl rfl rfl (pv_skip rfl rfl (by decide)) ?_
          refine xa_effect (by kernel_rfl) 10 rfl rfl (by kernel_rfl) [9, 8, 7, 5, 3, 6, 4, 2, 1, 0] (by kernel_rfl) rfl (pp' := []) (pl' := []) (hid := []) rfl rfl rfl ?_
          refine xo_guard_no rfl rfl (by decide) rfl ?_
          refine xo_nil ⟨⟨_, rfl⟩, fun _ hp => (by cases hp), ?_⟩
          refine xa_env (ρ' := [(42, _), (41, _), (40, _), (39, _), (38, _), (37, _), (36, _), (35, _), (34, _), (33, _), (32, _), (3, _), (4, _), (5, _), (6, _), (31, _)]) rfl ?_
          refine xa_p (by kernel_rfl) 11 43 [42, 40] rfl rfl rfl rfl rfl rfl rfl (pv_skip rfl rfl (by decide)) ?_
          refine xa_p (by kernel_rfl) 12 44 [40, 43] rfl rfl rfl rfl rfl rfl rfl (pv_none (rn_pick_t rfl rfl rfl)) ?_
          refine xa_p (by kernel_rfl) 13 45 [44] rfl rfl rfl rfl rfl rfl rfl (pv_none (rn_move rfl)) ?_
          refine xa_p (by kernel_rfl) 14 46 [4, 45] rfl rfl rfl rfl rfl rfl rfl (pv_skip rfl rfl (by decide)) ?_
          refine xa_p (by kernel_rfl) 16 48 [5, 45] rfl rfl rfl rfl rfl rfl rfl (pv_skip rfl rfl (by decide)) ?_
          refine xa_effect (by kernel_rfl) 15 rfl rfl (by kernel_rfl) [14, 13, 12, 10, 8, 11, 9, 7, 5, 3, 6, 4, 2, 1, 0] (by kernel_rfl) rfl (pp' := [_]) (pl' := []) (hid := [48]) rfl rfl rfl ?_
          refine xo_guard_no rfl rfl (by decide) rfl ?_
          refine xo_nil ⟨⟨_, rfl⟩, fun _ hp => (by cases hp), ?_⟩
          refine xa_env (ρ' := [(48, _), (47, _), (46, _), (45, _), (44, _), (43, _), (42, _), (41, _), (40, _), (39, _), (38, _), (37, _), (36, _), (35, _), (34, _), (33, _), (32, _), (3, _), (4, _), (5, _), (6, _), (31, _)]) rfl ?_
          refine xa_effect (by kernel_rfl) 17 rfl rfl (by kernel_rfl) [16, 15, 13, 14, 12, 10, 8, 11, 9, 7, 5, 3, 6, 4, 2, 1, 0] (by kernel_rfl) rfl (pp' := []) (pl' := []) (hid := []) rfl rfl rfl ?_
          refine xo_guard_no rfl rfl (by decide) rfl ?_
          refine xo_nil ⟨⟨_, rfl⟩, fun _ hp => (by cases hp), ?_⟩
          refine xa_env (ρ' := [(49, _), (48, _), (47, _), (46, _), (45, _), (44, _), (43, _), (42, _), (41, _), (40, _), (39, _), (38, _), (37, _), (36, _), (35, _), (34, _), (33, _), (32, _), (3, _), (4, _), (5, _), (6, _), (31, _)]) rfl ?_
          refine xa_p (by kernel_rfl) 18 50 [47, 49, 45] rfl rfl rfl rfl rfl rfl rfl (pv_skip rfl rfl (by decide)) ?_
          refine xa_p (by kernel_rfl) 19 51 [50, 45] rfl rfl rfl rfl rfl rfl rfl (pv_skip rfl rfl (by decide)) ?_
          refine xa_p (by kernel_rfl) 20 52 [45, 51] rfl rfl rfl rfl rfl rfl rfl (pv_none (rn_pick_t rfl rfl rfl)) ?_
          refine xa_end (by kernel_rfl) rfl (kcut_normal ?_)
          refine ⟨_, ⟨rfl, fun hgg => ?_⟩, ⟨rfl, rfl, rfl, rfl, rfl, trivial⟩, .cons_cons _ (.cons_cons _ (.cons_cons _ (.refl _))), rfl, Mem.le.refl _⟩
          first
            | (cases hgg; done)
            | (simp_all; omega)
        · have hg35_p := hg35
          try rw [Bool.not_eq_true'] at hg35_p
          try rw [Bool.not_eq_false'] at hg35_p
          try rw [decide_eq_true_eq] at hg35_p
          try rw [decide_eq_false_iff_not] at hg35_p
          try rw [Int.not_lt] at hg35_p
          try rw [Int.not_le] at hg35_p
          refine xa_l (by kernel_rfl) 4 36 [5, 35] rfl rfl rfl rfl rfl rfl rfl (pvl_run rfl rfl hg35 (rl_own (q := 1) (v := .agg #[_, _, _]) tk24 rfl rfl rfl)) ?_
          refine xa_effect (by kernel_rfl) 5 rfl rfl (by kernel_rfl) [4, 3, 2, 1, 0] (by kernel_rfl) rfl (pp' := []) (pl' := []) (hid := []) rfl rfl rfl ?_
          refine xo_guard_yes rfl rfl hg35 ?_ rfl
          refine xo_callS rfl cl13 (vs := [_, _]) rfl (Right_spec _ _ _ _ hy0) ?_
          refine xo_nil ⟨⟨_, rfl⟩, fun _ hp => (by cases hp), ?_⟩
          refine xa_env (ρ' := [(37, _), (36, _), (35, _), (34, _), (33, _), (32, _), (3, _), (4, _), (5, _), (6, _), (31, _)]) rfl ?_
          refine xa_p (by kernel_rfl) 6 38 [37, 35] rfl rfl rfl rfl rfl rfl rfl (pv_run rfl rfl hg35 (rn_not rfl)) ?_
          refine xa_p (by kernel_rfl) 7 39 [35, 38] rfl rfl rfl rfl rfl rfl rfl (pv_none (rn_pick_f rfl hg35 rfl)) ?_
          refine xa_p (by kernel_rfl) 8 40 [39] rfl rfl rfl rfl rfl rfl rfl (pv_none (rn_move rfl)) ?_
          refine xa_split (t := 40) rfl (fun hg40 => ?_) (fun hg40 => ?_)
          · have hg40_p := hg40
            try rw [Bool.not_eq_true'] at hg40_p
            try rw [Bool.not_eq_false'] at hg40_p
            try rw [decide_eq_true_eq] at hg40_p
            try rw [decide_eq_false_iff_not] at hg40_p
            try rw [Int.not_lt] at hg40_p
            try rw [Int.not_le] at hg40_p
            refine xa_p (by kernel_rfl) 9 41 [6, 40] rfl rfl rfl rfl rfl rfl rfl (pv_skip rfl rfl (by rw [hg40]; decide)) ?_
            refine xa_effect (by kernel_rfl) 10 rfl rfl (by kernel_rfl) [9, 8, 7, 5, 3, 6, 4, 2, 1, 0] (by kernel_rfl) rfl (pp' := []) (pl' := []) (hid := []) rfl rfl rfl ?_
            refine xo_guard_no rfl rfl (by rw [hg40]; decide) rfl ?_
            refine xo_nil ⟨⟨_, rfl⟩, fun _ hp => (by cases hp), ?_⟩
            refine xa_env (ρ' := [(42, _), (41, _), (40, _), (39, _), (38, _), (37, _), (36, _), (35, _), (34, _), (33, _), (32, _), (3, _), (4, _), (5, _), (6, _), (31, _)]) rfl ?_
            refine xa_p (by kernel_rfl) 11 43 [42, 40] rfl rfl rfl rfl rfl rfl rfl (pv_skip rfl rfl (by rw [hg40]; decide)) ?_
            refine xa_p (by kernel_rfl) 12 44 [40, 43] rfl rfl rfl rfl rfl rfl rfl (pv_none (rn_pick_t rfl hg40 rfl)) ?_
            refine xa_p (by kernel_rfl) 13 45 [44] rfl rfl rfl rfl rfl rfl rfl (pv_none (rn_move rfl)) ?_
            refine xa_p (by kernel_rfl) 14 46 [4, 45] rfl rfl rfl rfl rfl rfl rfl (pv_skip rfl rfl (by decide)) ?_
            refine xa_p (by kernel_rfl) 16 48 [5, 45] rfl rfl rfl rfl rfl rfl rfl (pv_skip rfl rfl (by decide)) ?_
            refine xa_effect (by kernel_rfl) 15 rfl rfl (by kernel_rfl) [14, 13, 12, 10, 8, 11, 9, 7, 5, 3, 6, 4, 2, 1, 0] (by kernel_rfl) rfl (pp' := [_]) (pl' := []) (hid := [48]) rfl rfl rfl ?_
            refine xo_guard_no rfl rfl (by decide) rfl ?_
            refine xo_nil ⟨⟨_, rfl⟩, fun _ hp => (by cases hp), ?_⟩
            refine xa_env (ρ' := [(48, _), (47, _), (46, _), (45, _), (44, _), (43, _), (42, _), (41, _), (40, _), (39, _), (38, _), (37, _), (36, _), (35, _), (34, _), (33, _), (32, _), (3, _), (4, _), (5, _), (6, _), (31, _)]) rfl ?_
            refine xa_effect (by kernel_rfl) 17 rfl rfl (by kernel_rfl) [16, 15, 13, 14, 12, 10, 8, 11, 9, 7, 5, 3, 6, 4, 2, 1, 0] (by kernel_rfl) rfl (pp' := []) (pl' := []) (hid := []) rfl rfl rfl ?_
            refine xo_guard_no rfl rfl (by decide) rfl ?_
            refine xo_nil ⟨⟨_, rfl⟩, fun _ hp => (by cases hp), ?_⟩
            refine xa_env (ρ' := [(49, _), (48, _), (47, _), (46, _), (45, _), (44, _), (43, _), (42, _), (41, _), (40, _), (39, _), (38, _), (37, _), (36, _), (35, _), (34, _), (33, _), (32, _), (3, _), (4, _), (5, _), (6, _), (31, _)]) rfl ?_
            refine xa_p (by kernel_rfl) 18 50 [47, 49, 45] rfl rfl rfl rfl rfl rfl rfl (pv_skip rfl rfl (by decide)) ?_
            refine xa_p (by kernel_rfl) 19 51 [50, 45] rfl rfl rfl rfl rfl rfl rfl (pv_skip rfl rfl (by decide)) ?_
            refine xa_p (by kernel_rfl) 20 52 [45, 51] rfl rfl rfl rfl rfl rfl rfl (pv_none (rn_pick_t rfl rfl rfl)) ?_
            refine xa_end (by kernel_rfl) rfl (kcut_normal ?_)
            refine ⟨_, ⟨rfl, fun hgg => ?_⟩, ⟨rfl, rfl, rfl, rfl, rfl, trivial⟩, .cons_cons _ (.cons_cons _ (.cons_cons _ (.refl _))), rfl, Mem.le.refl _⟩
            first
              | (cases hgg; done)
              | (simp_all; omega)
          · have hg40_p := hg40
            try rw [Bool.not_eq_true'] at hg40_p
            try rw [Bool.not_eq_false'] at hg40_p
            try rw [decide_eq_true_eq] at hg40_p
            try rw [decide_eq_false_iff_not] at hg40_p
            try rw [Int.not_lt] at hg40_p
            try rw [Int.not_le] at hg40_p
            refine xa_l (by kernel_rfl) 9 41 [6, 40] rfl rfl rfl rfl rfl rfl rfl (pvl_run rfl rfl hg40 (rl_own (q := 0) (v := .agg #[_, _, _]) tk24 rfl rfl rfl)) ?_
            refine xa_effect (by kernel_rfl) 10 rfl rfl (by kernel_rfl) [9, 8, 7, 5, 3, 6, 4, 2, 1, 0] (by kernel_rfl) rfl (pp' := []) (pl' := []) (hid := []) rfl rfl rfl ?_
            refine xo_guard_yes rfl rfl hg40 ?_ rfl
            refine xo_callS rfl cl13 (vs := [_, _]) rfl (Right_spec _ _ _ _ hz0) ?_
            refine xo_nil ⟨⟨_, rfl⟩, fun _ hp => (by cases hp), ?_⟩
            refine xa_env (ρ' := [(42, _), (41, _), (40, _), (39, _), (38, _), (37, _), (36, _), (35, _), (34, _), (33, _), (32, _), (3, _), (4, _), (5, _), (6, _), (31, _)]) rfl ?_
            refine xa_p (by kernel_rfl) 11 43 [42, 40] rfl rfl rfl rfl rfl rfl rfl (pv_run rfl rfl hg40 (rn_not rfl)) ?_
            refine xa_p (by kernel_rfl) 12 44 [40, 43] rfl rfl rfl rfl rfl rfl rfl (pv_none (rn_pick_f rfl hg40 rfl)) ?_
            refine xa_p (by kernel_rfl) 13 45 [44] rfl rfl rfl rfl rfl rfl rfl (pv_none (rn_move rfl)) ?_
            refine xa_split (t := 45) rfl (fun hg45 => ?_) (fun hg45 => ?_)
            · have hg45_p := hg45
              try rw [Bool.not_eq_true'] at hg45_p
              try rw [Bool.not_eq_false'] at hg45_p
              try rw [decide_eq_true_eq] at hg45_p
              try rw [decide_eq_false_iff_not] at hg45_p
              try rw [Int.not_lt] at hg45_p
              try rw [Int.not_le] at hg45_p
              refine xa_p (by kernel_rfl) 14 46 [4, 45] rfl rfl rfl rfl rfl rfl rfl (pv_skip rfl rfl (by rw [hg45]; decide)) ?_
              refine xa_p (by kernel_rfl) 16 48 [5, 45] rfl rfl rfl rfl rfl rfl rfl (pv_skip rfl rfl (by rw [hg45]; decide)) ?_
              refine xa_effect (by kernel_rfl) 15 rfl rfl (by kernel_rfl) [14, 13, 12, 10, 8, 11, 9, 7, 5, 3, 6, 4, 2, 1, 0] (by kernel_rfl) rfl (pp' := [_]) (pl' := []) (hid := [48]) rfl rfl rfl ?_
              refine xo_guard_no rfl rfl (by rw [hg45]; decide) rfl ?_
              refine xo_nil ⟨⟨_, rfl⟩, fun _ hp => (by cases hp), ?_⟩
              refine xa_env (ρ' := [(48, _), (47, _), (46, _), (45, _), (44, _), (43, _), (42, _), (41, _), (40, _), (39, _), (38, _), (37, _), (36, _), (35, _), (34, _), (33, _), (32, _), (3, _), (4, _), (5, _), (6, _), (31, _)]) rfl ?_
              refine xa_effect (by kernel_rfl) 17 rfl rfl (by kernel_rfl) [16, 15, 13, 14, 12, 10, 8, 11, 9, 7, 5, 3, 6, 4, 2, 1, 0] (by kernel_rfl) rfl (pp' := []) (pl' := []) (hid := []) rfl rfl rfl ?_
              refine xo_guard_no rfl rfl (by rw [hg45]; decide) rfl ?_
              refine xo_nil ⟨⟨_, rfl⟩, fun _ hp => (by cases hp), ?_⟩
              refine xa_env (ρ' := [(49, _), (48, _), (47, _), (46, _), (45, _), (44, _), (43, _), (42, _), (41, _), (40, _), (39, _), (38, _), (37, _), (36, _), (35, _), (34, _), (33, _), (32, _), (3, _), (4, _), (5, _), (6, _), (31, _)]) rfl ?_
              refine xa_p (by kernel_rfl) 18 50 [47, 49, 45] rfl rfl rfl rfl rfl rfl rfl (pv_skip rfl rfl (by rw [hg45]; decide)) ?_
              refine xa_p (by kernel_rfl) 19 51 [50, 45] rfl rfl rfl rfl rfl rfl rfl (pv_skip rfl rfl (by rw [hg45]; decide)) ?_
              refine xa_p (by kernel_rfl) 20 52 [45, 51] rfl rfl rfl rfl rfl rfl rfl (pv_none (rn_pick_t rfl hg45 rfl)) ?_
              refine xa_end (by kernel_rfl) rfl (kcut_normal ?_)
              refine ⟨_, ⟨rfl, fun hgg => ?_⟩, ⟨rfl, rfl, rfl, rfl, rfl, trivial⟩, .cons_cons _ (.cons_cons _ (.cons_cons _ (.refl _))), rfl, Mem.le.refl _⟩
              first
                | (cases hgg; done)
                | (simp_all; omega)
            · have hg45_p := hg45
              try rw [Bool.not_eq_true'] at hg45_p
              try rw [Bool.not_eq_false'] at hg45_p
              try rw [decide_eq_true_eq] at hg45_p
              try rw [decide_eq_false_iff_not] at hg45_p
              try rw [Int.not_lt] at hg45_p
              try rw [Int.not_le] at hg45_p
              refine xa_l (by kernel_rfl) 14 46 [4, 45] rfl rfl rfl rfl rfl rfl rfl (pvl_run rfl rfl hg45 (rl_own (q := 2) (v := .agg #[_, _, _]) tk24 rfl rfl rfl)) ?_
              refine xa_l (by kernel_rfl) 16 48 [5, 45] rfl rfl rfl rfl rfl rfl rfl (pvl_run rfl rfl hg45 (rl_own (q := 1) (v := .agg #[_, _, _]) tk24 rfl rfl rfl)) ?_
              refine xa_effect (by kernel_rfl) 15 rfl rfl (by kernel_rfl) [14, 13, 12, 10, 8, 11, 9, 7, 5, 3, 6, 4, 2, 1, 0] (by kernel_rfl) rfl (pp' := []) (pl' := [_]) (hid := [48]) rfl rfl rfl ?_
              refine xo_guard_yes rfl rfl hg45 ?_ rfl
              refine xo_callS rfl cl21 (vs := [_]) rfl (Nodes_spec _ _ _ hx0) ?_
              refine xo_nil ⟨⟨_, rfl⟩, List.forall_mem_cons.2 ⟨pvl_run rfl rfl hg45 (rl_own (q := 1) (v := .agg #[_, _, _]) tk24 rfl rfl rfl), fun _ hp => (by cases hp)⟩, ?_⟩
              refine xa_env (ρ' := [(48, _), (47, _), (46, _), (45, _), (44, _), (43, _), (42, _), (41, _), (40, _), (39, _), (38, _), (37, _), (36, _), (35, _), (34, _), (33, _), (32, _), (3, _), (4, _), (5, _), (6, _), (31, _)]) rfl ?_
              refine xa_effect (by kernel_rfl) 17 rfl rfl (by kernel_rfl) [16, 15, 13, 14, 12, 10, 8, 11, 9, 7, 5, 3, 6, 4, 2, 1, 0] (by kernel_rfl) rfl (pp' := []) (pl' := []) (hid := []) rfl rfl rfl ?_
              refine xo_guard_yes rfl rfl hg45 ?_ rfl
              refine xo_callS rfl cl21 (vs := [_]) rfl (Nodes_spec _ _ _ hy0) ?_
              refine xo_nil ⟨⟨_, rfl⟩, fun _ hp => (by cases hp), ?_⟩
              refine xa_env (ρ' := [(49, _), (48, _), (47, _), (46, _), (45, _), (44, _), (43, _), (42, _), (41, _), (40, _), (39, _), (38, _), (37, _), (36, _), (35, _), (34, _), (33, _), (32, _), (3, _), (4, _), (5, _), (6, _), (31, _)]) rfl ?_
              refine xa_p (by kernel_rfl) 18 50 [47, 49, 45] rfl rfl rfl rfl rfl rfl rfl (pv_run rfl rfl hg45 (by first | exact rn_addN rfl rfl (by unfold i64; omega) | exact rn_add rfl rfl)) ?_
              refine xa_p (by kernel_rfl) 19 51 [50, 45] rfl rfl rfl rfl rfl rfl rfl (pv_run rfl rfl hg45 (rn_gtr rfl rfl)) ?_
              refine xa_p (by kernel_rfl) 20 52 [45, 51] rfl rfl rfl rfl rfl rfl rfl (pv_none (rn_pick_f rfl hg45 rfl)) ?_
              refine xa_end (by kernel_rfl) rfl (kcut_normal ?_)
              refine ⟨_, ⟨rfl, fun hgg => ?_⟩, ⟨rfl, rfl, rfl, rfl, rfl, trivial⟩, .cons_cons _ (.cons_cons _ (.cons_cons _ (.refl _))), rfl, Mem.le.refl _⟩
              first
                | (cases hgg; done)
                | (simp_all; omega)
      · rintro _ _ ⟨rfl, hR⟩ hle
        refine kseq_normal ?_
        refine x_cond rfl (fun hc52 => ?_) (fun hc52 => ?_)
        · have hc52b := hc52
          try rw [Bool.not_eq_true'] at hc52
          try rw [Bool.not_eq_false'] at hc52
          try rw [decide_eq_true_eq] at hc52
          try rw [decide_eq_false_iff_not] at hc52
          try rw [Int.not_lt] at hc52
          try rw [Int.not_le] at hc52
          refine x_seq ?_
          refine x_region ?_
          refine xo_rn rfl (rn_assign rfl) ?_
          refine xo_nil (kseq_normal ?_)
          refine x_ret (kseq_ret ?_)
          refine ⟨rfl, [_], .cons (.tmp rfl) (.nil), fin_drop (μ' := []) (List.nil_sublist _) (fin_done (ret_tup1 ?_))⟩
          rfl
        · have hc52b := hc52
          try rw [Bool.not_eq_true'] at hc52
          try rw [Bool.not_eq_false'] at hc52
          try rw [decide_eq_true_eq] at hc52
          try rw [decide_eq_false_iff_not] at hc52
          try rw [Int.not_lt] at hc52
          try rw [Int.not_le] at hc52
          refine x_skip (kseq_normal ?_)
          refine x_seq ?_
          refine x_region ?_
          refine xo_rl rfl (rl_own (q := 2) (v := .agg #[_, _, _]) tk24 rfl rfl rfl) ?_
          refine xo_rn rfl (rn_move rfl) ?_
          refine xo_callS rfl cl15 (vs := [_, _]) rfl (Value_spec _ _ _ _ _ hx0 hs0) ?_
          refine xo_rn rfl (rn_assign rfl) ?_
          refine xo_nil (kseq_normal ?_)
          refine x_seq ?_
          refine x_region ?_
          refine xo_rl rfl (rl_own (q := 1) (v := .agg #[_, _, _]) tk24 rfl rfl rfl) ?_
          refine xo_rn rfl (rn_move rfl) ?_
          obtain ⟨rx, ry, rz, hsz⟩ := hR hc52
          have hvm := value_max vs rx ry hsz
          have hvi := value_imax vs rx ry hsz
          have hvs := value_succ vs rx (by omega)
          have q1 := leq_succ rx (by omega)
          have q2 := @not_succ_leq x
          have q3 := leq_max1 rx ry hsz
          have q4 := leq_max2 rx ry hsz
          have q5 := leq_imax_max rx ry hsz
          have q6 := leq_imax2 rx ry hsz
          have q7 : leqF x z = true → leqF y z = true → leqF (maxL [x, y]) z = true := fun h1 h2 => leq_max h1 h2 hsz
          refine xo_callS rfl cl15 (vs := [_, _]) rfl (Value_spec _ _ _ _ _ hy0 hs0) ?_
          refine xo_rn rfl (rn_assign rfl) ?_
          refine xo_nil (kseq_normal ?_)
          refine x_seq ?_
          refine x_region ?_
          refine xo_rl rfl (rl_own (q := 2) (v := .agg #[_, _, _]) tk24 rfl rfl rfl) ?_
          refine xo_rl rfl (rl_own (q := 1) (v := .agg #[_, _, _]) tk24 rfl rfl rfl) ?_
          refine xo_buildSlice (pv := [(_, _), (_, _)]) (zs := [_, _, _, _, _, _]) (cs := [_, _, _, _, _, _]) rfl tsl22 tz24 rfl rfl rfl rfl (fun b61 => ?_)
          refine xo_freezeBlk (q := 0) rfl (fun m_b61 hle_b61 hm_b61 => ?_)
          dsimp only [List.eraseIdx]
          refine xo_call0 rfl cl26 (vs := [_]) rfl (Max_spec [x, y] _ _ (LvsS.of2 hm_b61 (hx0.mono hle_b61) (hy0.mono hle_b61))) (fun v62 m62 _ hle62 hq62 => ?_)
          obtain ⟨c62, rfl, hm⟩ := hq62
          have hm' := hm
          obtain ⟨k62, n62, l62, a62, cap62, e62, rfl, -, -, -, -⟩ := hm'.open
          replace hx0 := (hx0.mono hle_b61).mono hle62
          replace hy0 := (hy0.mono hle_b61).mono hle62
          replace hz0 := (hz0.mono hle_b61).mono hle62
          replace hs0 := (hs0.mono hle_b61).mono hle62
          refine xo_alloc rfl tz24 (cs := [_, _, _]) rfl (fun b11 => ?_)
          refine xo_store (q := 0) (vs := [_, _, _]) (cs' := [_, _, _]) (μ' := [_, _, _, _]) tk24 rfl rfl rfl rfl rfl rfl rfl rfl rfl ?_
          refine xo_nil (kseq_normal ?_)
          refine x_seq ?_
          refine x_region ?_
          refine xo_rl rfl (rl_own (q := 3) (v := .agg #[_, _, _]) tk24 rfl rfl rfl) ?_
          refine xo_rl rfl (rl_own (q := 2) (v := .agg #[_, _, _]) tk24 rfl rfl rfl) ?_
          refine xo_call0 rfl cl27 (vs := [_, _]) rfl (IMax_spec _ _ _ _ _ hx0 hy0) (fun v65 m65 _ hle65 hq65 => ?_)
          obtain ⟨c65, rfl, hi⟩ := hq65
          have hi' := hi
          obtain ⟨k65, n65, l65, a65, cap65, e65, rfl, -, -, -, -⟩ := hi'.open
          replace hx0 := hx0.mono hle65
          replace hy0 := hy0.mono hle65
          replace hz0 := hz0.mono hle65
          replace hs0 := hs0.mono hle65
          replace hm := hm.mono hle65
          refine xo_alloc rfl tz24 (cs := [_, _, _]) rfl (fun b12 => ?_)
          refine xo_store (q := 0) (vs := [_, _, _]) (cs' := [_, _, _]) (μ' := [_, _, _, _, _]) tk24 rfl rfl rfl rfl rfl rfl rfl rfl rfl ?_
          refine xo_nil (kseq_normal ?_)
          refine x_seq ?_
          refine x_region ?_
          refine xo_rl rfl (rl_own (q := 4) (v := .agg #[_, _, _]) tk24 rfl rfl rfl) ?_
          refine xo_call0 rfl cl28 (vs := [_]) rfl (Succ_spec _ _ _ hx0) (fun v67 m67 _ hle67 hq67 => ?_)
          obtain ⟨c67, rfl, hu⟩ := hq67
          have hu' := hu
          obtain ⟨k67, n67, l67, a67, cap67, e67, rfl, -, -, -, -⟩ := hu'.open
          replace hx0 := hx0.mono hle67
          replace hy0 := hy0.mono hle67
          replace hz0 := hz0.mono hle67
          replace hs0 := hs0.mono hle67
          replace hm := hm.mono hle67
          replace hi := hi.mono hle67
          refine xo_alloc rfl tz24 (cs := [_, _, _]) rfl (fun b13 => ?_)
          refine xo_store (q := 0) (vs := [_, _, _]) (cs' := [_, _, _]) (μ' := [_, _, _, _, _, _]) tk24 rfl rfl rfl rfl rfl rfl rfl rfl rfl ?_
          refine xo_nil (kseq_normal ?_)
          refine x_seq ?_
          refine x_region ?_
          refine xo_rn rfl (rn_move rfl) ?_
          refine xo_rn rfl (rn_move rfl) ?_
          refine xo_rn rfl (rn_max rfl rfl) ?_
          refine xo_rn rfl (rn_assign rfl) ?_
          refine xo_nil (kseq_normal ?_)
          refine x_seq ?_
          refine x_seq ?_
          refine x_region ?_
          refine xo_rn rfl (rn_move rfl) ?_
          refine xo_rn rfl (rn_eql rfl rfl) ?_
          refine xo_nil (kseq_normal ?_)
          refine x_cond rfl (fun hc72 => ?_) (fun hc72 => ?_)
          · have hc72b := hc72
            try rw [Bool.not_eq_true'] at hc72
            try rw [Bool.not_eq_false'] at hc72
            try rw [decide_eq_true_eq] at hc72
            try rw [decide_eq_false_iff_not] at hc72
            try rw [Int.not_lt] at hc72
            try rw [Int.not_le] at hc72
            refine x_region ?_
            refine xo_rn rfl (rn_assign rfl) ?_
            refine xo_nil (kseq_normal ?_)
            refine x_seq ?_
            refine x_seq ?_
            refine x_region ?_
            refine xo_rl rfl (rl_own (q := 2) (v := .agg #[_, _, _]) tk24 rfl rfl rfl) ?_
            refine xo_rn rfl (rn_move rfl) ?_
            refine xo_callS rfl cl15 (vs := [_, _]) rfl (Value_is hm hs0 hvm) ?_
            refine xo_rn rfl (rn_move rfl) ?_
            refine xo_rn rfl (rn_move rfl) ?_
            refine xo_rn rfl (rn_max rfl rfl) ?_
            refine xo_rn rfl (rn_cast (v' := .bool false) (rn_neq rfl rfl) (by simp)) ?_
            refine xo_rn rfl (rn_move rfl) ?_
            refine xo_guard_yes rfl rfl rfl ?_ rfl
            refine xo_rl rfl (rl_own (q := 1) (v := .agg #[_, _, _]) tk24 rfl rfl rfl) ?_
            refine xo_guard_yes rfl rfl rfl ?_ rfl
            refine xo_rn rfl (rn_move rfl) ?_
            refine xo_guard_yes rfl rfl rfl ?_ rfl
            refine xo_callS rfl cl15 (vs := [_, _]) rfl (Value_is hi hs0 hvi) ?_
            refine xo_guard_yes rfl rfl rfl ?_ rfl
            refine xo_rn rfl (rn_move rfl) ?_
            refine xo_guard_yes rfl rfl rfl ?_ rfl
            refine xo_rn rfl (rn_cast (v' := .bool false) (rn_neq rfl rfl) (by simp_all)) ?_
            refine xo_rn rfl (rn_pick_f rfl rfl rfl) ?_
            refine xo_rn rfl (rn_move rfl) ?_
            refine xo_guard_yes rfl rfl rfl ?_ rfl
            refine xo_rl rfl (rl_own (q := 0) (v := .agg #[_, _, _]) tk24 rfl rfl rfl) ?_
            refine xo_guard_yes rfl rfl rfl ?_ rfl
            refine xo_rn rfl (rn_move rfl) ?_
            refine xo_guard_yes rfl rfl rfl ?_ rfl
            refine xo_callS rfl cl15 (vs := [_, _]) rfl (Value_is hu hs0 hvs) ?_
            refine xo_guard_yes rfl rfl rfl ?_ rfl
            refine xo_rn rfl (rn_move rfl) ?_
            refine xo_guard_yes rfl rfl rfl ?_ rfl
            refine xo_rn rfl (by first | exact rn_addN rfl rfl (by unfold i64; omega) | exact rn_add rfl rfl) ?_
            refine xo_guard_yes rfl rfl rfl ?_ rfl
            refine xo_rn rfl (rn_cast (v' := .bool false) (rn_neq rfl rfl) (by simp)) ?_
            refine xo_rn rfl (rn_pick_f rfl rfl rfl) ?_
            refine xo_rn rfl (rn_move rfl) ?_
            refine xo_guard_yes rfl rfl rfl ?_ rfl
            refine xo_rl rfl (rl_own (q := 5) (v := .agg #[_, _, _]) tk24 rfl rfl rfl) ?_
            refine xo_guard_yes rfl rfl rfl ?_ rfl
            refine xo_rl rfl (rl_own (q := 0) (v := .agg #[_, _, _]) tk24 rfl rfl rfl) ?_
            refine xo_guard_yes rfl rfl rfl ?_ rfl
            refine xo_callS rfl cl17 (vs := [_, _]) rfl (Leq_is hx0 hu q1) ?_
            refine xo_guard_yes rfl rfl rfl ?_ rfl
            refine xo_rn rfl (rn_not rfl) ?_
            refine xo_rn rfl (rn_pick_f rfl rfl rfl) ?_
            refine xo_rn rfl (rn_move rfl) ?_
            refine xo_guard_yes rfl rfl rfl ?_ rfl
            refine xo_rl rfl (rl_own (q := 0) (v := .agg #[_, _, _]) tk24 rfl rfl rfl) ?_
            refine xo_guard_yes rfl rfl rfl ?_ rfl
            refine xo_rl rfl (rl_own (q := 5) (v := .agg #[_, _, _]) tk24 rfl rfl rfl) ?_
            refine xo_guard_yes rfl rfl rfl ?_ rfl
            refine xo_callS rfl cl17 (vs := [_, _]) rfl (Leq_is hu hx0 q2) ?_
            refine xo_rn rfl (rn_pick_f rfl rfl rfl) ?_
            refine xo_nil (kseq_normal ?_)
            refine x_cond_false rfl ?_
            refine x_skip (kseq_normal ?_)
            refine x_seq ?_
            refine x_seq ?_
            refine x_region ?_
            refine xo_rl rfl (rl_own (q := 5) (v := .agg #[_, _, _]) tk24 rfl rfl rfl) ?_
            refine xo_rl rfl (rl_own (q := 2) (v := .agg #[_, _, _]) tk24 rfl rfl rfl) ?_
            refine xo_callS rfl cl17 (vs := [_, _]) rfl (Leq_is hx0 hm q3) ?_
            refine xo_rn rfl (rn_not rfl) ?_
            refine xo_rn rfl (rn_move rfl) ?_
            refine xo_guard_yes rfl rfl rfl ?_ rfl
            refine xo_rl rfl (rl_own (q := 4) (v := .agg #[_, _, _]) tk24 rfl rfl rfl) ?_
            refine xo_guard_yes rfl rfl rfl ?_ rfl
            refine xo_rl rfl (rl_own (q := 2) (v := .agg #[_, _, _]) tk24 rfl rfl rfl) ?_
            refine xo_guard_yes rfl rfl rfl ?_ rfl
            refine xo_callS rfl cl17 (vs := [_, _]) rfl (Leq_is hy0 hm q4) ?_
            refine xo_guard_yes rfl rfl rfl ?_ rfl
            refine xo_rn rfl (rn_not rfl) ?_
            refine xo_rn rfl (rn_pick_f rfl rfl rfl) ?_
            refine xo_rn rfl (rn_move rfl) ?_
            refine xo_guard_yes rfl rfl rfl ?_ rfl
            refine xo_rl rfl (rl_own (q := 1) (v := .agg #[_, _, _]) tk24 rfl rfl rfl) ?_
            refine xo_guard_yes rfl rfl rfl ?_ rfl
            refine xo_rl rfl (rl_own (q := 2) (v := .agg #[_, _, _]) tk24 rfl rfl rfl) ?_
            refine xo_guard_yes rfl rfl rfl ?_ rfl
            refine xo_callS rfl cl17 (vs := [_, _]) rfl (Leq_is hi hm q5) ?_
            refine xo_guard_yes rfl rfl rfl ?_ rfl
            refine xo_rn rfl (rn_not rfl) ?_
            refine xo_rn rfl (rn_pick_f rfl rfl rfl) ?_
            refine xo_rn rfl (rn_move rfl) ?_
            refine xo_guard_yes rfl rfl rfl ?_ rfl
            refine xo_rl rfl (rl_own (q := 4) (v := .agg #[_, _, _]) tk24 rfl rfl rfl) ?_
            refine xo_guard_yes rfl rfl rfl ?_ rfl
            refine xo_rl rfl (rl_own (q := 1) (v := .agg #[_, _, _]) tk24 rfl rfl rfl) ?_
            refine xo_guard_yes rfl rfl rfl ?_ rfl
            refine xo_callS rfl cl17 (vs := [_, _]) rfl (Leq_is hy0 hi q6) ?_
            refine xo_guard_yes rfl rfl rfl ?_ rfl
            refine xo_rn rfl (rn_not rfl) ?_
            refine xo_rn rfl (rn_pick_f rfl rfl rfl) ?_
            refine xo_nil (kseq_normal ?_)
            refine x_cond_false rfl ?_
            refine x_skip (kseq_normal ?_)
            refine x_seq ?_
            refine x_region ?_
            refine xo_rl rfl (rl_own (q := 5) (v := .agg #[_, _, _]) tk24 rfl rfl rfl) ?_
            refine xo_rl rfl (rl_own (q := 3) (v := .agg #[_, _, _]) tk24 rfl rfl rfl) ?_
            refine xo_callS rfl cl17 (vs := [_, _]) rfl (Leq_spec _ _ _ _ _ hx0 hz0) ?_
            refine xo_rn rfl (rn_not rfl) ?_
            refine xo_rn rfl (rn_move rfl) ?_
            refine xo_guard rfl rfl (fun hg132 => ?_) (fun hg132 => ?_) rfl
            · have hg132_p := hg132
              try rw [Bool.not_eq_true'] at hg132_p
              try rw [Bool.not_eq_false'] at hg132_p
              try rw [decide_eq_true_eq] at hg132_p
              try rw [decide_eq_false_iff_not] at hg132_p
              try rw [Int.not_lt] at hg132_p
              try rw [Int.not_le] at hg132_p
              refine xo_rl rfl (rl_own (q := 4) (v := .agg #[_, _, _]) tk24 rfl rfl rfl) ?_
              refine xo_guard_yes rfl rfl hg132 ?_ rfl
              refine xo_rl rfl (rl_own (q := 3) (v := .agg #[_, _, _]) tk24 rfl rfl rfl) ?_
              refine xo_guard_yes rfl rfl hg132 ?_ rfl
              refine xo_callS rfl cl17 (vs := [_, _]) rfl (Leq_spec _ _ _ _ _ hy0 hz0) ?_
              refine xo_guard_yes rfl rfl hg132 ?_ rfl
              refine xo_rn rfl (rn_not rfl) ?_
              refine xo_rn rfl (rn_pick_f rfl hg132 rfl) ?_
              refine xo_rn rfl (rn_move rfl) ?_
              refine xo_guard rfl rfl (fun hg138 => ?_) (fun hg138 => ?_) rfl
              · have hg138_p := hg138
                try rw [Bool.not_eq_true'] at hg138_p
                try rw [Bool.not_eq_false'] at hg138_p
                try rw [decide_eq_true_eq] at hg138_p
                try rw [decide_eq_false_iff_not] at hg138_p
                try rw [Int.not_lt] at hg138_p
                try rw [Int.not_le] at hg138_p
                refine xo_rl rfl (rl_own (q := 2) (v := .agg #[_, _, _]) tk24 rfl rfl rfl) ?_
                refine xo_guard_yes rfl rfl hg138 ?_ rfl
                refine xo_rl rfl (rl_own (q := 3) (v := .agg #[_, _, _]) tk24 rfl rfl rfl) ?_
                refine xo_guard_yes rfl rfl hg138 ?_ rfl
                refine xo_callS rfl cl17 (vs := [_, _]) rfl (Leq_is hm hz0 (q7 (by first | simpa using hg132 | simpa using hg132_1) (by first | simpa using hg138 | simpa using hg138_1))) ?_
                refine xo_rn rfl (rn_pick_f rfl hg138 rfl) ?_
                refine xo_rn rfl (rn_assign rfl) ?_
                refine xo_nil (kseq_normal ?_)
                refine x_ret ?_
                refine ⟨rfl, [_], .cons (.tmp rfl) (.nil), fin_drop (μ' := []) (List.nil_sublist _) (fin_done (ret_tup1 ?_))⟩
                rfl
              · replace hg138 := ne_f hg138
                have hg138_p := hg138
                try rw [Bool.not_eq_true'] at hg138_p
                try rw [Bool.not_eq_false'] at hg138_p
                try rw [decide_eq_true_eq] at hg138_p
                try rw [decide_eq_false_iff_not] at hg138_p
                try rw [Int.not_lt] at hg138_p
                try rw [Int.not_le] at hg138_p
                dsimp only [putU]
                refine xo_guard_no rfl rfl (by rw [hg138]; decide) rfl ?_
                refine xo_guard_no rfl rfl (by rw [hg138]; decide) rfl ?_
                refine xo_rn rfl (rn_pick_t rfl hg138 rfl) ?_
                refine xo_rn rfl (rn_assign rfl) ?_
                refine xo_nil (kseq_normal ?_)
                refine x_ret ?_
                refine ⟨rfl, [_], .cons (.tmp rfl) (.nil), fin_drop (μ' := []) (List.nil_sublist _) (fin_done (ret_tup1 ?_))⟩
                rfl
            · replace hg132 := ne_f hg132
              have hg132_p := hg132
              try rw [Bool.not_eq_true'] at hg132_p
              try rw [Bool.not_eq_false'] at hg132_p
              try rw [decide_eq_true_eq] at hg132_p
              try rw [decide_eq_false_iff_not] at hg132_p
              try rw [Int.not_lt] at hg132_p
              try rw [Int.not_le] at hg132_p
              dsimp only [putU]
              refine xo_guard_no rfl rfl (by rw [hg132]; decide) rfl ?_
              refine xo_guard_no rfl rfl (by rw [hg132]; decide) rfl ?_
              refine xo_guard_no rfl rfl (by rw [hg132]; decide) rfl ?_
              refine xo_rn rfl (rn_pick_t rfl hg132 rfl) ?_
              refine xo_rn rfl (rn_move rfl) ?_
              refine xo_guard_no rfl rfl (by decide) rfl ?_
              refine xo_guard_no rfl rfl (by decide) rfl ?_
              refine xo_guard_no rfl rfl (by decide) rfl ?_
              refine xo_rn rfl (rn_pick_t rfl rfl rfl) ?_
              refine xo_rn rfl (rn_assign rfl) ?_
              refine xo_nil (kseq_normal ?_)
              refine x_ret ?_
              refine ⟨rfl, [_], .cons (.tmp rfl) (.nil), fin_drop (μ' := []) (List.nil_sublist _) (fin_done (ret_tup1 ?_))⟩
              rfl
          · have hc72b := hc72
            try rw [Bool.not_eq_true'] at hc72
            try rw [Bool.not_eq_false'] at hc72
            try rw [decide_eq_true_eq] at hc72
            try rw [decide_eq_false_iff_not] at hc72
            try rw [Int.not_lt] at hc72
            try rw [Int.not_le] at hc72
            refine x_skip (kseq_normal ?_)
            refine x_seq ?_
            refine x_seq ?_
            refine x_region ?_
            refine xo_rl rfl (rl_own (q := 2) (v := .agg #[_, _, _]) tk24 rfl rfl rfl) ?_
            refine xo_rn rfl (rn_move rfl) ?_
            refine xo_callS rfl cl15 (vs := [_, _]) rfl (Value_is hm hs0 hvm) ?_
            refine xo_rn rfl (rn_move rfl) ?_
            refine xo_rn rfl (rn_move rfl) ?_
            refine xo_rn rfl (rn_max rfl rfl) ?_
            refine xo_rn rfl (rn_cast (v' := .bool false) (rn_neq rfl rfl) (by simp)) ?_
            refine xo_rn rfl (rn_move rfl) ?_
            refine xo_guard_yes rfl rfl rfl ?_ rfl
            refine xo_rl rfl (rl_own (q := 1) (v := .agg #[_, _, _]) tk24 rfl rfl rfl) ?_
            refine xo_guard_yes rfl rfl rfl ?_ rfl
            refine xo_rn rfl (rn_move rfl) ?_
            refine xo_guard_yes rfl rfl rfl ?_ rfl
            refine xo_callS rfl cl15 (vs := [_, _]) rfl (Value_is hi hs0 hvi) ?_
            refine xo_guard_yes rfl rfl rfl ?_ rfl
            refine xo_rn rfl (rn_move rfl) ?_
            refine xo_guard_yes rfl rfl rfl ?_ rfl
            refine xo_rn rfl (rn_cast (v' := .bool false) (rn_neq rfl rfl) (by simp_all)) ?_
            refine xo_rn rfl (rn_pick_f rfl rfl rfl) ?_
            refine xo_rn rfl (rn_move rfl) ?_
            refine xo_guard_yes rfl rfl rfl ?_ rfl
            refine xo_rl rfl (rl_own (q := 0) (v := .agg #[_, _, _]) tk24 rfl rfl rfl) ?_
            refine xo_guard_yes rfl rfl rfl ?_ rfl
            refine xo_rn rfl (rn_move rfl) ?_
            refine xo_guard_yes rfl rfl rfl ?_ rfl
            refine xo_callS rfl cl15 (vs := [_, _]) rfl (Value_is hu hs0 hvs) ?_
            refine xo_guard_yes rfl rfl rfl ?_ rfl
            refine xo_rn rfl (rn_move rfl) ?_
            refine xo_guard_yes rfl rfl rfl ?_ rfl
            refine xo_rn rfl (by first | exact rn_addN rfl rfl (by unfold i64; omega) | exact rn_add rfl rfl) ?_
            refine xo_guard_yes rfl rfl rfl ?_ rfl
            refine xo_rn rfl (rn_cast (v' := .bool false) (rn_neq rfl rfl) (by simp)) ?_
            refine xo_rn rfl (rn_pick_f rfl rfl rfl) ?_
            refine xo_rn rfl (rn_move rfl) ?_
            refine xo_guard_yes rfl rfl rfl ?_ rfl
            refine xo_rl rfl (rl_own (q := 5) (v := .agg #[_, _, _]) tk24 rfl rfl rfl) ?_
            refine xo_guard_yes rfl rfl rfl ?_ rfl
            refine xo_rl rfl (rl_own (q := 0) (v := .agg #[_, _, _]) tk24 rfl rfl rfl) ?_
            refine xo_guard_yes rfl rfl rfl ?_ rfl
            refine xo_callS rfl cl17 (vs := [_, _]) rfl (Leq_is hx0 hu q1) ?_
            refine xo_guard_yes rfl rfl rfl ?_ rfl
            refine xo_rn rfl (rn_not rfl) ?_
            refine xo_rn rfl (rn_pick_f rfl rfl rfl) ?_
            refine xo_rn rfl (rn_move rfl) ?_
            refine xo_guard_yes rfl rfl rfl ?_ rfl
            refine xo_rl rfl (rl_own (q := 0) (v := .agg #[_, _, _]) tk24 rfl rfl rfl) ?_
            refine xo_guard_yes rfl rfl rfl ?_ rfl
            refine xo_rl rfl (rl_own (q := 5) (v := .agg #[_, _, _]) tk24 rfl rfl rfl) ?_
            refine xo_guard_yes rfl rfl rfl ?_ rfl
            refine xo_callS rfl cl17 (vs := [_, _]) rfl (Leq_is hu hx0 q2) ?_
            refine xo_rn rfl (rn_pick_f rfl rfl rfl) ?_
            refine xo_nil (kseq_normal ?_)
            refine x_cond_false rfl ?_
            refine x_skip (kseq_normal ?_)
            refine x_seq ?_
            refine x_seq ?_
            refine x_region ?_
            refine xo_rl rfl (rl_own (q := 5) (v := .agg #[_, _, _]) tk24 rfl rfl rfl) ?_
            refine xo_rl rfl (rl_own (q := 2) (v := .agg #[_, _, _]) tk24 rfl rfl rfl) ?_
            refine xo_callS rfl cl17 (vs := [_, _]) rfl (Leq_is hx0 hm q3) ?_
            refine xo_rn rfl (rn_not rfl) ?_
            refine xo_rn rfl (rn_move rfl) ?_
            refine xo_guard_yes rfl rfl rfl ?_ rfl
            refine xo_rl rfl (rl_own (q := 4) (v := .agg #[_, _, _]) tk24 rfl rfl rfl) ?_
            refine xo_guard_yes rfl rfl rfl ?_ rfl
            refine xo_rl rfl (rl_own (q := 2) (v := .agg #[_, _, _]) tk24 rfl rfl rfl) ?_
            refine xo_guard_yes rfl rfl rfl ?_ rfl
            refine xo_callS rfl cl17 (vs := [_, _]) rfl (Leq_is hy0 hm q4) ?_
            refine xo_guard_yes rfl rfl rfl ?_ rfl
            refine xo_rn rfl (rn_not rfl) ?_
            refine xo_rn rfl (rn_pick_f rfl rfl rfl) ?_
            refine xo_rn rfl (rn_move rfl) ?_
            refine xo_guard_yes rfl rfl rfl ?_ rfl
            refine xo_rl rfl (rl_own (q := 1) (v := .agg #[_, _, _]) tk24 rfl rfl rfl) ?_
            refine xo_guard_yes rfl rfl rfl ?_ rfl
            refine xo_rl rfl (rl_own (q := 2) (v := .agg #[_, _, _]) tk24 rfl rfl rfl) ?_
            refine xo_guard_yes rfl rfl rfl ?_ rfl
            refine xo_callS rfl cl17 (vs := [_, _]) rfl (Leq_is hi hm q5) ?_
            refine xo_guard_yes rfl rfl rfl ?_ rfl
            refine xo_rn rfl (rn_not rfl) ?_
            refine xo_rn rfl (rn_pick_f rfl rfl rfl) ?_
            refine xo_rn rfl (rn_move rfl) ?_
            refine xo_guard_yes rfl rfl rfl ?_ rfl
            refine xo_rl rfl (rl_own (q := 4) (v := .agg #[_, _, _]) tk24 rfl rfl rfl) ?_
            refine xo_guard_yes rfl rfl rfl ?_ rfl
            refine xo_rl rfl (rl_own (q := 1) (v := .agg #[_, _, _]) tk24 rfl rfl rfl) ?_
            refine xo_guard_yes rfl rfl rfl ?_ rfl
            refine xo_callS rfl cl17 (vs := [_, _]) rfl (Leq_is hy0 hi q6) ?_
            refine xo_guard_yes rfl rfl rfl ?_ rfl
            refine xo_rn rfl (rn_not rfl) ?_
            refine xo_rn rfl (rn_pick_f rfl rfl rfl) ?_
            refine xo_nil (kseq_normal ?_)
            refine x_cond_false rfl ?_
            refine x_skip (kseq_normal ?_)
            refine x_seq ?_
            refine x_region ?_
            refine xo_rl rfl (rl_own (q := 5) (v := .agg #[_, _, _]) tk24 rfl rfl rfl) ?_
            refine xo_rl rfl (rl_own (q := 3) (v := .agg #[_, _, _]) tk24 rfl rfl rfl) ?_
            refine xo_callS rfl cl17 (vs := [_, _]) rfl (Leq_spec _ _ _ _ _ hx0 hz0) ?_
            refine xo_rn rfl (rn_not rfl) ?_
            refine xo_rn rfl (rn_move rfl) ?_
            refine xo_guard rfl rfl (fun hg132_1 => ?_) (fun hg132_1 => ?_) rfl
            · have hg132_1_p := hg132_1
              try rw [Bool.not_eq_true'] at hg132_1_p
              try rw [Bool.not_eq_false'] at hg132_1_p
              try rw [decide_eq_true_eq] at hg132_1_p
              try rw [decide_eq_false_iff_not] at hg132_1_p
              try rw [Int.not_lt] at hg132_1_p
              try rw [Int.not_le] at hg132_1_p
              refine xo_rl rfl (rl_own (q := 4) (v := .agg #[_, _, _]) tk24 rfl rfl rfl) ?_
              refine xo_guard_yes rfl rfl hg132_1 ?_ rfl
              refine xo_rl rfl (rl_own (q := 3) (v := .agg #[_, _, _]) tk24 rfl rfl rfl) ?_
              refine xo_guard_yes rfl rfl hg132_1 ?_ rfl
              refine xo_callS rfl cl17 (vs := [_, _]) rfl (Leq_spec _ _ _ _ _ hy0 hz0) ?_
              refine xo_guard_yes rfl rfl hg132_1 ?_ rfl
              refine xo_rn rfl (rn_not rfl) ?_
              refine xo_rn rfl (rn_pick_f rfl hg132_1 rfl) ?_
              refine xo_rn rfl (rn_move rfl) ?_
              refine xo_guard rfl rfl (fun hg138_1 => ?_) (fun hg138_1 => ?_) rfl
              · have hg138_1_p := hg138_1
                try rw [Bool.not_eq_true'] at hg138_1_p
                try rw [Bool.not_eq_false'] at hg138_1_p
                try rw [decide_eq_true_eq] at hg138_1_p
                try rw [decide_eq_false_iff_not] at hg138_1_p
                try rw [Int.not_lt] at hg138_1_p
                try rw [Int.not_le] at hg138_1_p
                refine xo_rl rfl (rl_own (q := 2) (v := .agg #[_, _, _]) tk24 rfl rfl rfl) ?_
                refine xo_guard_yes rfl rfl hg138_1 ?_ rfl
                refine xo_rl rfl (rl_own (q := 3) (v := .agg #[_, _, _]) tk24 rfl rfl rfl) ?_
                refine xo_guard_yes rfl rfl hg138_1 ?_ rfl
                refine xo_callS rfl cl17 (vs := [_, _]) rfl (Leq_is hm hz0 (q7 (by first | simpa using hg132 | simpa using hg132_1) (by first | simpa using hg138 | simpa using hg138_1))) ?_
                refine xo_rn rfl (rn_pick_f rfl hg138_1 rfl) ?_
                refine xo_rn rfl (rn_assign rfl) ?_
                refine xo_nil (kseq_normal ?_)
                refine x_ret ?_
                refine ⟨rfl, [_], .cons (.tmp rfl) (.nil), fin_drop (μ' := []) (List.nil_sublist _) (fin_done (ret_tup1 ?_))⟩
                rfl
              · replace hg138_1 := ne_f hg138_1
                have hg138_1_p := hg138_1
                try rw [Bool.not_eq_true'] at hg138_1_p
                try rw [Bool.not_eq_false'] at hg138_1_p
                try rw [decide_eq_true_eq] at hg138_1_p
                try rw [decide_eq_false_iff_not] at hg138_1_p
                try rw [Int.not_lt] at hg138_1_p
                try rw [Int.not_le] at hg138_1_p
                dsimp only [putU]
                refine xo_guard_no rfl rfl (by rw [hg138_1]; decide) rfl ?_
                refine xo_guard_no rfl rfl (by rw [hg138_1]; decide) rfl ?_
                refine xo_rn rfl (rn_pick_t rfl hg138_1 rfl) ?_
                refine xo_rn rfl (rn_assign rfl) ?_
                refine xo_nil (kseq_normal ?_)
                refine x_ret ?_
                refine ⟨rfl, [_], .cons (.tmp rfl) (.nil), fin_drop (μ' := []) (List.nil_sublist _) (fin_done (ret_tup1 ?_))⟩
                rfl
            · replace hg132_1 := ne_f hg132_1
              have hg132_1_p := hg132_1
              try rw [Bool.not_eq_true'] at hg132_1_p
              try rw [Bool.not_eq_false'] at hg132_1_p
              try rw [decide_eq_true_eq] at hg132_1_p
              try rw [decide_eq_false_iff_not] at hg132_1_p
              try rw [Int.not_lt] at hg132_1_p
              try rw [Int.not_le] at hg132_1_p
              dsimp only [putU]
              refine xo_guard_no rfl rfl (by rw [hg132_1]; decide) rfl ?_
              refine xo_guard_no rfl rfl (by rw [hg132_1]; decide) rfl ?_
              refine xo_guard_no rfl rfl (by rw [hg132_1]; decide) rfl ?_
              refine xo_rn rfl (rn_pick_t rfl hg132_1 rfl) ?_
              refine xo_rn rfl (rn_move rfl) ?_
              refine xo_guard_no rfl rfl (by decide) rfl ?_
              refine xo_guard_no rfl rfl (by decide) rfl ?_
              refine xo_guard_no rfl rfl (by decide) rfl ?_
              refine xo_rn rfl (rn_pick_t rfl rfl rfl) ?_
              refine xo_rn rfl (rn_assign rfl) ?_
              refine xo_nil (kseq_normal ?_)
              refine x_ret ?_
              refine ⟨rfl, [_], .cons (.tmp rfl) (.nil), fin_drop (μ' := []) (List.nil_sublist _) (fin_done (ret_tup1 ?_))⟩
              rfl

end Go.Proofs.Ytagilgmgacpffaa

/-
  The law LevelAnswers: its walk.
-/
import Derived.Test.YtagilgmgacpffaaLo
namespace Go.Proofs.Ytagilgmgacpffaa
open Go Go.Gw

theorem nodes_ln (l : Lv) : nodesF l = lnF l 64 := by rw [nodesF_eq, lnF_eq _ _ (by omega)]; rfl

theorem SameLevel_self {x : Lv} {m : Mem} {cs ds : List Value} (hx : LvV m x cs) (hy : LvV m x ds) : Scal Try.prog 23 #[.agg cs.toArray, .agg ds.toArray] m (.bool true) := sameL_refl x ▸ SameLevel_spec x x m cs ds hx hy

set_option maxHeartbeats 4000000 in
theorem LevelAnswers_spec (x y : Lv) (nn : Int) (vs : List Int) (m : Mem) (cx cy : List Value) (sv : Value) (hx : LvV m x cx) (hy : LvV m y cy) (_ : i64 nn) (hs : IntsV m vs sv) :
    Scal Try.prog 3 #[.agg cx.toArray, .agg cy.toArray, .int .i64 nn, sv] m (.bool true) := by
  refine scal_of ?_
  have hx0 := hx
  have hy0 := hy
  have hs0 := hs
  obtain ⟨kx, nx, lx, ax, capx, ex, rfl, -, -, -, -⟩ := hx.open
  obtain ⟨ky, ny, ly, ay, capy, ey, rfl, -, -, -, -⟩ := hy.open
  obtain ⟨a, cap, rfl, hcap, hlen, hat⟩ := hs
  clear hat hx hy
  have hn0 : ∀ m', LvV m' (.mk 1 0 []) [.int .i64 1, .int .i64 0, .slice none 0 0] := fun _ => LvV.leaf 1 0 (by unfold i64; omega) (by unfold i64; omega)
  have hn1 : ∀ m', LvV m' (.mk 1 1 []) [.int .i64 1, .int .i64 1, .slice none 0 0] := fun _ => LvV.leaf 1 1 (by unfold i64; omega) (by unfold i64; omega)
  refine spec_body (vs := [_, _, _, _]) Try.func3 rfl Try.ntmps3 rfl (fun E => ?_)
  refine x_seq ?_
  refine x_region ?_
  refine xo_box rfl rfl (cs := [_, _, _]) rfl (fun b4 => ?_)
  refine xo_box rfl rfl (cs := [_, _, _]) rfl (fun b5 => ?_)
  refine xo_rn rfl (rn_assign rfl) ?_
  refine xo_nil (kseq_normal ?_)
  refine x_seq ?_
  refine x_seq ?_
  refine x_region ?_
  refine xo_callS rfl cl8 (vs := []) rfl (alive_spec _) ?_
  refine xo_rn rfl (rn_not rfl) ?_
  refine xo_nil (kseq_normal ?_)
  refine x_cond_false rfl ?_
  refine x_skip (kseq_normal ?_)
  refine x_seq ?_
  refine x_seq ?_
  refine x_cut (G := Bool) (fun g => [(2, .int .i64 nn), (3, .slice a vs.length cap), (4, .pointer (some ⟨b4, 0, none⟩)), (5, .pointer (some ⟨b5, 0, none⟩)), (26, .bool g)])
    (fun _ => [bx b5 24 [.int .i64 ky, .int .i64 ny, .slice ay ly.length capy], bx b4 24 [.int .i64 kx, .int .i64 nx, .slice ax lx.length capx]]) (fun _ m' => m = m') ?_ ?_
  · refine x_region ?_
    refine xo_rl rfl (rl_own (q := 1) (v := .agg #[_, _, _]) tk24 rfl rfl rfl) ?_
    refine xo_callS rfl cl9 (vs := [_]) rfl (great_spec _ _ _ hx0) ?_
    refine xo_rn rfl (rn_move rfl) ?_
    refine xo_guard rfl rfl (fun hg18 => ?_) (fun hg18 => ?_) rfl
    · have hg18_p := hg18
      try rw [Bool.not_eq_true'] at hg18_p
      try rw [Bool.not_eq_false'] at hg18_p
      try rw [decide_eq_true_eq] at hg18_p
      try rw [decide_eq_false_iff_not] at hg18_p
      try rw [Int.not_lt] at hg18_p
      try rw [Int.not_le] at hg18_p
      refine xo_rl rfl (rl_own (q := 0) (v := .agg #[_, _, _]) tk24 rfl rfl rfl) ?_
      refine xo_guard_yes rfl rfl hg18 ?_ rfl
      refine xo_callS rfl cl9 (vs := [_]) rfl (great_spec _ _ _ hy0) ?_
      refine xo_rn rfl (rn_pick_f rfl hg18 rfl) ?_
      refine xo_rn rfl (rn_move rfl) ?_
      refine xo_guard rfl rfl (fun hg22 => ?_) (fun hg22 => ?_) rfl
      · have hg22_p := hg22
        try rw [Bool.not_eq_true'] at hg22_p
        try rw [Bool.not_eq_false'] at hg22_p
        try rw [decide_eq_true_eq] at hg22_p
        try rw [decide_eq_false_iff_not] at hg22_p
        try rw [Int.not_lt] at hg22_p
        try rw [Int.not_le] at hg22_p
        refine xo_rn rfl (rn_move rfl) ?_
        refine xo_guard_yes rfl rfl hg22 ?_ rfl
        refine xo_rn rfl (rn_len_slice tsl25 rfl) ?_
        refine xo_guard_yes rfl rfl hg22 ?_ rfl
        refine xo_rn rfl (rn_gtr rfl rfl) ?_
        refine xo_rn rfl (rn_pick_f rfl hg22 rfl) ?_
        refine xo_nil (kcut_normal ?_)
        exact ⟨_, rfl, ⟨rfl, rfl, rfl, rfl, rfl, trivial⟩, .cons_cons _ (.cons_cons _ (.refl _)), rfl, Mem.le.refl _⟩
      · replace hg22 := ne_f hg22
        have hg22_p := hg22
        try rw [Bool.not_eq_true'] at hg22_p
        try rw [Bool.not_eq_false'] at hg22_p
        try rw [decide_eq_true_eq] at hg22_p
        try rw [decide_eq_false_iff_not] at hg22_p
        try rw [Int.not_lt] at hg22_p
        try rw [Int.not_le] at hg22_p
        dsimp only [putU]
        refine xo_guard_no rfl rfl (by rw [hg22]; decide) rfl ?_
        refine xo_guard_no rfl rfl (by rw [hg22]; decide) rfl ?_
        refine xo_rn rfl (rn_pick_t rfl hg22 rfl) ?_
        refine xo_nil (kcut_normal ?_)
        exact ⟨_, rfl, ⟨rfl, rfl, rfl, rfl, rfl, trivial⟩, .cons_cons _ (.cons_cons _ (.refl _)), rfl, Mem.le.refl _⟩
    · replace hg18 := ne_f hg18
      have hg18_p := hg18
      try rw [Bool.not_eq_true'] at hg18_p
      try rw [Bool.not_eq_false'] at hg18_p
      try rw [decide_eq_true_eq] at hg18_p
      try rw [decide_eq_false_iff_not] at hg18_p
      try rw [Int.not_lt] at hg18_p
      try rw [Int.not_le] at hg18_p
      dsimp only [putU]
      refine xo_guard_no rfl rfl (by rw [hg18]; decide) rfl ?_
      refine xo_rn rfl (rn_pick_t rfl hg18 rfl) ?_
      refine xo_rn rfl (rn_move rfl) ?_
      refine xo_guard_no rfl rfl (by decide) rfl ?_
      refine xo_guard_no rfl rfl (by decide) rfl ?_
      refine xo_guard_no rfl rfl (by decide) rfl ?_
      refine xo_rn rfl (rn_pick_t rfl rfl rfl) ?_
      refine xo_nil (kcut_normal ?_)
      exact ⟨_, rfl, ⟨rfl, rfl, rfl, rfl, rfl, trivial⟩, .cons_cons _ (.cons_cons _ (.refl _)), rfl, Mem.le.refl _⟩
  · rintro _ _ rfl hle
    refine kseq_normal ?_
    refine x_cond rfl (fun hc26 => ?_) (fun hc26 => ?_)
    · have hc26b := hc26
      try rw [Bool.not_eq_true'] at hc26
      try rw [Bool.not_eq_false'] at hc26
      try rw [decide_eq_true_eq] at hc26
      try rw [decide_eq_false_iff_not] at hc26
      try rw [Int.not_lt] at hc26
      try rw [Int.not_le] at hc26
      refine x_seq ?_
      refine x_region ?_
      refine xo_rn rfl (rn_assign rfl) ?_
      refine xo_nil (kseq_normal ?_)
      refine x_ret (kseq_ret ?_)
      refine ⟨rfl, [_], .cons (.tmp rfl) (.nil), fin_drop (μ' := []) (List.nil_sublist _) (fin_done (ret_tup1 ?_))⟩
      rfl
    · have hc26b := hc26
      try rw [Bool.not_eq_true'] at hc26
      try rw [Bool.not_eq_false'] at hc26
      try rw [decide_eq_true_eq] at hc26
      try rw [decide_eq_false_iff_not] at hc26
      try rw [Int.not_lt] at hc26
      try rw [Int.not_le] at hc26
      refine x_skip (kseq_normal ?_)
      refine x_seq ?_
      refine x_region ?_
      refine xo_rl rfl (rl_own (q := 1) (v := .agg #[_, _, _]) tk24 rfl rfl rfl) ?_
      refine xo_call0 rfl cl10 (vs := [_]) rfl (CopyLevel_spec _ _ _ hx0) (fun v28 m28 _ hle28 hq28 => ?_)
      obtain ⟨c28, rfl, hu⟩ := hq28
      have hu' := hu
      obtain ⟨k28, n28, l28, a28, cap28, e28, rfl, -, -, -, -⟩ := hu'.open
      replace hx0 := hx0.mono hle28
      replace hy0 := hy0.mono hle28
      replace hs0 := hs0.mono hle28
      refine xo_alloc rfl tz24 (cs := [_, _, _]) rfl (fun b9 => ?_)
      refine xo_store (q := 0) (vs := [_, _, _]) (cs' := [_, _, _]) (μ' := [_, _, _]) tk24 rfl rfl rfl rfl rfl rfl rfl rfl rfl ?_
      refine xo_nil (kseq_normal ?_)
      refine x_seq ?_
      refine x_region ?_
      refine xo_rl rfl (rl_own (q := 2) (v := .agg #[_, _, _]) tk24 rfl rfl rfl) ?_
      refine xo_rl rfl (rl_own (q := 1) (v := .agg #[_, _, _]) tk24 rfl rfl rfl) ?_
      refine xo_callS rfl cl11 (vs := [_, _]) rfl (rLeq_spec _ _ _ _ _ hx0 hy0) ?_
      refine xo_rn rfl (rn_assign rfl) ?_
      refine xo_nil (kseq_normal ?_)
      refine x_seq ?_
      refine x_region ?_
      refine xo_rl rfl (rl_own (q := 1) (v := .agg #[_, _, _]) tk24 rfl rfl rfl) ?_
      refine xo_rl rfl (rl_own (q := 2) (v := .agg #[_, _, _]) tk24 rfl rfl rfl) ?_
      refine xo_callS rfl cl11 (vs := [_, _]) rfl (rLeq_spec _ _ _ _ _ hy0 hx0) ?_
      refine xo_rn rfl (rn_assign rfl) ?_
      refine xo_nil (kseq_normal ?_)
      refine x_seq ?_
      refine x_env (ρ' := [(2, _), (3, _), (4, _), (5, _), (9, _), (10, _), (11, _)]) ⟨rfl, rfl, rfl, rfl, rfl, rfl, rfl, trivial⟩ ?_
      refine x_region_draw (by kernel_rfl) ?_
      refine xa_l (by kernel_rfl) 0 35 [4] rfl rfl rfl rfl rfl rfl rfl (pvl_none (rl_own (q := 2) (v := .agg #[_, _, _]) tk24 rfl rfl rfl)) ?_
      refine xa_effect (by kernel_rfl) 1 rfl rfl (by kernel_rfl) [] (by kernel_rfl) rfl (pp' := []) (pl' := [_]) (hid := [35]) rfl rfl rfl ?_
      refine xo_callS rfl cl12 (vs := [_]) rfl (Num_spec _ _) ?_
      refine xo_nil ⟨⟨_, rfl⟩, List.forall_mem_cons.2 ⟨pvl_none (rl_own (q := 2) (v := .agg #[_, _, _]) tk24 rfl rfl rfl), fun _ hp => (by cases hp)⟩, ?_⟩
      refine xa_env (ρ' := [(35, _), (36, _), (2, _), (3, _), (4, _), (5, _), (9, _), (10, _), (11, _)]) rfl ?_
      refine xa_effect (by kernel_rfl) 2 rfl rfl (by kernel_rfl) [0, 1] (by kernel_rfl) rfl (pp' := []) (pl' := []) (hid := []) rfl rfl rfl ?_
      refine xo_callS rfl cl11 (vs := [_, _]) rfl (rLeq_spec _ _ _ _ _ hx0 (hn0 _)) ?_
      refine xo_nil ⟨⟨_, rfl⟩, fun _ hp => (by cases hp), ?_⟩
      refine xa_env (ρ' := [(37, _), (35, _), (36, _), (2, _), (3, _), (4, _), (5, _), (9, _), (10, _), (11, _)]) rfl ?_
      refine xa_p (by kernel_rfl) 3 12 [37] rfl rfl rfl rfl rfl rfl rfl (pv_none (rn_assign rfl)) ?_
      refine xa_end (by kernel_rfl) rfl (kseq_normal ?_)
      refine x_seq ?_
      refine x_env (ρ' := [(2, _), (3, _), (4, _), (5, _), (9, _), (10, _), (11, _), (12, _)]) ⟨rfl, rfl, rfl, rfl, rfl, rfl, rfl, rfl, trivial⟩ ?_
      refine x_region_draw (by kernel_rfl) ?_
      refine xa_l (by kernel_rfl) 1 39 [4] rfl rfl rfl rfl rfl rfl rfl (pvl_none (rl_own (q := 2) (v := .agg #[_, _, _]) tk24 rfl rfl rfl)) ?_
      refine xa_effect (by kernel_rfl) 0 rfl rfl (by kernel_rfl) [] (by kernel_rfl) rfl (pp' := []) (pl' := [_]) (hid := [39]) rfl rfl rfl ?_
      refine xo_callS rfl cl12 (vs := [_]) rfl (Num_spec _ _) ?_
      refine xo_nil ⟨⟨_, rfl⟩, List.forall_mem_cons.2 ⟨pvl_none (rl_own (q := 2) (v := .agg #[_, _, _]) tk24 rfl rfl rfl), fun _ hp => (by cases hp)⟩, ?_⟩
      refine xa_env (ρ' := [(39, _), (38, _), (2, _), (3, _), (4, _), (5, _), (9, _), (10, _), (11, _), (12, _)]) rfl ?_
      refine xa_effect (by kernel_rfl) 2 rfl rfl (by kernel_rfl) [0, 1] (by kernel_rfl) rfl (pp' := []) (pl' := []) (hid := []) rfl rfl rfl ?_
      refine xo_callS rfl cl11 (vs := [_, _]) rfl (rLeq_spec _ _ _ _ _ (hn1 _) hx0) ?_
      refine xo_nil ⟨⟨_, rfl⟩, fun _ hp => (by cases hp), ?_⟩
      refine xa_env (ρ' := [(40, _), (39, _), (38, _), (2, _), (3, _), (4, _), (5, _), (9, _), (10, _), (11, _), (12, _)]) rfl ?_
      refine xa_p (by kernel_rfl) 3 13 [40] rfl rfl rfl rfl rfl rfl rfl (pv_none (rn_assign rfl)) ?_
      refine xa_end (by kernel_rfl) rfl (kseq_normal ?_)
      refine x_seq ?_
      refine x_env (ρ' := [(2, _), (3, _), (4, _), (5, _), (9, _), (10, _), (11, _), (12, _), (13, _)]) ⟨rfl, rfl, rfl, rfl, rfl, rfl, rfl, rfl, rfl, trivial⟩ ?_
      refine x_region_draw (by kernel_rfl) ?_
      refine xa_l (by kernel_rfl) 0 41 [9] rfl rfl rfl rfl rfl rfl rfl (pvl_none (rl_own (q := 0) (v := .agg #[_, _, _]) tk24 rfl rfl rfl)) ?_
      refine xa_p (by kernel_rfl) 1 42 [2] rfl rfl rfl rfl rfl rfl rfl (pv_none (rn_move rfl)) ?_
      refine xa_l (by kernel_rfl) 3 44 [4] rfl rfl rfl rfl rfl rfl rfl (pvl_none (rl_own (q := 2) (v := .agg #[_, _, _]) tk24 rfl rfl rfl)) ?_
      refine xa_p (by kernel_rfl) 4 45 [2] rfl rfl rfl rfl rfl rfl rfl (pv_none (rn_move rfl)) ?_
      refine xa_effect (by kernel_rfl) 2 rfl rfl (by kernel_rfl) [0, 1] (by kernel_rfl) rfl (pp' := [_]) (pl' := [_]) (hid := [45, 44]) rfl rfl rfl ?_
      refine xo_callS rfl cl13 (vs := [_, _]) rfl (Right_spec _ _ _ _ hu) ?_
      refine xo_nil ⟨⟨_, rfl⟩, List.forall_mem_cons.2 ⟨pvl_none (rl_own (q := 2) (v := .agg #[_, _, _]) tk24 rfl rfl rfl), fun _ hp => (by cases hp)⟩, ?_⟩
      refine xa_env (ρ' := [(45, _), (44, _), (43, _), (42, _), (41, _), (2, _), (3, _), (4, _), (5, _), (9, _), (10, _), (11, _), (12, _), (13, _)]) rfl ?_
      refine xa_effect (by kernel_rfl) 5 rfl rfl (by kernel_rfl) [3, 4, 2, 0, 1] (by kernel_rfl) rfl (pp' := []) (pl' := []) (hid := []) rfl rfl rfl ?_
      refine xo_callS rfl cl14 (vs := [_, _]) rfl (rRight_spec _ _ _ _ hx0) ?_
      refine xo_nil ⟨⟨_, rfl⟩, fun _ hp => (by cases hp), ?_⟩
      refine xa_env (ρ' := [(46, _), (45, _), (44, _), (43, _), (42, _), (41, _), (2, _), (3, _), (4, _), (5, _), (9, _), (10, _), (11, _), (12, _), (13, _)]) rfl ?_
      refine xa_p (by kernel_rfl) 6 47 [43, 46] rfl rfl rfl rfl rfl rfl rfl (pv_none (rn_cast (v' := .bool true) (rn_eqlB Try.underlying4 rfl rfl) (by simp))) ?_
      refine xa_p (by kernel_rfl) 7 48 [47] rfl rfl rfl rfl rfl rfl rfl (pv_none (rn_move rfl)) ?_
      refine xa_l (by kernel_rfl) 8 49 [9, 48] rfl rfl rfl rfl rfl rfl rfl (pvl_run rfl rfl rfl (rl_own (q := 0) (v := .agg #[_, _, _]) tk24 rfl rfl rfl)) ?_
      refine xa_p (by kernel_rfl) 9 50 [3, 48] rfl rfl rfl rfl rfl rfl rfl (pv_run rfl rfl rfl (rn_move rfl)) ?_
      refine xa_l (by kernel_rfl) 11 52 [4, 48] rfl rfl rfl rfl rfl rfl rfl (pvl_run rfl rfl rfl (rl_own (q := 2) (v := .agg #[_, _, _]) tk24 rfl rfl rfl)) ?_
      refine xa_p (by kernel_rfl) 12 53 [3, 48] rfl rfl rfl rfl rfl rfl rfl (pv_run rfl rfl rfl (rn_move rfl)) ?_
      refine xa_effect (by kernel_rfl) 10 rfl rfl (by kernel_rfl) [8, 9, 7, 6, 5, 2, 3, 4, 0, 1] (by kernel_rfl) rfl (pp' := [_]) (pl' := [_]) (hid := [53, 52]) rfl rfl rfl ?_
      refine xo_guard_yes rfl rfl rfl ?_ rfl
      refine xo_callS rfl cl15 (vs := [_, _]) rfl (Value_spec _ _ _ _ _ hu hs0) ?_
      refine xo_nil ⟨⟨_, rfl⟩, List.forall_mem_cons.2 ⟨pvl_run rfl rfl rfl (rl_own (q := 2) (v := .agg #[_, _, _]) tk24 rfl rfl rfl), fun _ hp => (by cases hp)⟩, ?_⟩
      refine xa_env (ρ' := [(53, _), (52, _), (51, _), (50, _), (49, _), (48, _), (47, _), (46, _), (45, _), (44, _), (43, _), (42, _), (41, _), (2, _), (3, _), (4, _), (5, _), (9, _), (10, _), (11, _), (12, _), (13, _)]) rfl ?_
      refine xa_effect (by kernel_rfl) 13 rfl rfl (by kernel_rfl) [11, 12, 10, 7, 8, 9, 6, 5, 2, 3, 4, 0, 1] (by kernel_rfl) rfl (pp' := []) (pl' := []) (hid := []) rfl rfl rfl ?_
      refine xo_guard_yes rfl rfl rfl ?_ rfl
      refine xo_callS rfl cl16 (vs := [_, _]) rfl (rValue_spec _ _ _ _ _ hx0 hs0) ?_
      refine xo_nil ⟨⟨_, rfl⟩, fun _ hp => (by cases hp), ?_⟩
      refine xa_env (ρ' := [(54, _), (53, _), (52, _), (51, _), (50, _), (49, _), (48, _), (47, _), (46, _), (45, _), (44, _), (43, _), (42, _), (41, _), (2, _), (3, _), (4, _), (5, _), (9, _), (10, _), (11, _), (12, _), (13, _)]) rfl ?_
      refine xa_p (by kernel_rfl) 14 55 [51, 54, 48] rfl rfl rfl rfl rfl rfl rfl (pv_run rfl rfl rfl (rn_cast (v' := .bool true) (rn_eql rfl rfl) (by simp))) ?_
      refine xa_p (by kernel_rfl) 15 56 [48, 55] rfl rfl rfl rfl rfl rfl rfl (pv_none (rn_pick_t rfl rfl rfl)) ?_
      refine xa_p (by kernel_rfl) 16 57 [56] rfl rfl rfl rfl rfl rfl rfl (pv_none (rn_move rfl)) ?_
      refine xa_l (by kernel_rfl) 17 58 [9, 57] rfl rfl rfl rfl rfl rfl rfl (pvl_run rfl rfl rfl (rl_own (q := 0) (v := .agg #[_, _, _]) tk24 rfl rfl rfl)) ?_
      refine xa_l (by kernel_rfl) 18 59 [5, 57] rfl rfl rfl rfl rfl rfl rfl (pvl_run rfl rfl rfl (rl_own (q := 1) (v := .agg #[_, _, _]) tk24 rfl rfl rfl)) ?_
      refine xa_p (by kernel_rfl) 20 61 [10, 57] rfl rfl rfl rfl rfl rfl rfl (pv_run rfl rfl rfl (rn_move rfl)) ?_
      refine xa_effect (by kernel_rfl) 19 rfl rfl (by kernel_rfl) [17, 18, 16, 15, 13, 7, 14, 11, 12, 10, 6, 5, 8, 9, 2, 3, 4, 0, 1] (by kernel_rfl) rfl (pp' := [_]) (pl' := []) (hid := [61]) rfl rfl rfl ?_
      refine xo_guard_yes rfl rfl rfl ?_ rfl
      refine xo_callS rfl cl17 (vs := [_, _]) rfl (Leq_spec _ _ _ _ _ hu hy0) ?_
      refine xo_nil ⟨⟨_, rfl⟩, fun _ hp => (by cases hp), ?_⟩
      refine xa_env (ρ' := [(61, _), (60, _), (59, _), (58, _), (57, _), (56, _), (55, _), (54, _), (53, _), (52, _), (51, _), (50, _), (49, _), (48, _), (47, _), (46, _), (45, _), (44, _), (43, _), (42, _), (41, _), (2, _), (3, _), (4, _), (5, _), (9, _), (10, _), (11, _), (12, _), (13, _)]) rfl ?_
      refine xa_p (by kernel_rfl) 21 62 [60, 61, 57] rfl rfl rfl rfl rfl rfl rfl (pv_run rfl rfl rfl (rn_cast (v' := .bool true) (rn_eqlB Try.underlying4 rfl rfl) (by simp [leq_eq]))) ?_
      refine xa_p (by kernel_rfl) 22 63 [57, 62] rfl rfl rfl rfl rfl rfl rfl (pv_none (rn_pick_t rfl rfl rfl)) ?_
      refine xa_p (by kernel_rfl) 23 64 [63] rfl rfl rfl rfl rfl rfl rfl (pv_none (rn_move rfl)) ?_
      refine xa_l (by kernel_rfl) 24 65 [9, 64] rfl rfl rfl rfl rfl rfl rfl (pvl_run rfl rfl rfl (rl_own (q := 0) (v := .agg #[_, _, _]) tk24 rfl rfl rfl)) ?_
      refine xa_l (by kernel_rfl) 25 66 [5, 64] rfl rfl rfl rfl rfl rfl rfl (pvl_run rfl rfl rfl (rl_own (q := 1) (v := .agg #[_, _, _]) tk24 rfl rfl rfl)) ?_
      refine xa_p (by kernel_rfl) 27 68 [10, 64] rfl rfl rfl rfl rfl rfl rfl (pv_run rfl rfl rfl (rn_move rfl)) ?_
      refine xa_effect (by kernel_rfl) 26 rfl rfl (by kernel_rfl) [24, 25, 23, 22, 19, 16, 21, 17, 18, 15, 13, 20, 7, 14, 11, 12, 10, 6, 5, 8, 9, 2, 3, 4, 0, 1] (by kernel_rfl) rfl (pp' := [_]) (pl' := []) (hid := [68]) rfl rfl rfl ?_
      refine xo_guard_yes rfl rfl rfl ?_ rfl
      refine xo_callS rfl cl18 (vs := [_, _]) rfl (Same_spec _ _ _ _ _ hu hy0) ?_
      refine xo_nil ⟨⟨_, rfl⟩, fun _ hp => (by cases hp), ?_⟩
      refine xa_env (ρ' := [(68, _), (67, _), (66, _), (65, _), (64, _), (63, _), (62, _), (61, _), (60, _), (59, _), (58, _), (57, _), (56, _), (55, _), (54, _), (53, _), (52, _), (51, _), (50, _), (49, _), (48, _), (47, _), (46, _), (45, _), (44, _), (43, _), (42, _), (41, _), (2, _), (3, _), (4, _), (5, _), (9, _), (10, _), (11, _), (12, _), (13, _)]) rfl ?_
      refine xa_p (by kernel_rfl) 28 69 [68, 64] rfl rfl rfl rfl rfl rfl rfl (pv_run rfl rfl rfl (rn_move rfl)) ?_
      refine xa_split (t := 69) rfl (fun hg69 => ?_) (fun hg69 => ?_)
      · have hg69_p := hg69
        try rw [Bool.not_eq_true'] at hg69_p
        try rw [Bool.not_eq_false'] at hg69_p
        try rw [decide_eq_true_eq] at hg69_p
        try rw [decide_eq_false_iff_not] at hg69_p
        try rw [Int.not_lt] at hg69_p
        try rw [Int.not_le] at hg69_p
        refine xa_p (by kernel_rfl) 29 70 [11, 69] rfl rfl rfl rfl rfl rfl rfl (pv_run rfl rfl hg69 (rn_move rfl)) ?_
        refine xa_p (by kernel_rfl) 30 71 [69, 70, 64] rfl rfl rfl rfl rfl rfl rfl (pv_run rfl rfl rfl (rn_pick_t rfl hg69 rfl)) ?_
        refine xa_p (by kernel_rfl) 31 72 [67, 71, 64] rfl rfl rfl rfl rfl rfl rfl (pv_run rfl rfl rfl (rn_cast (v' := .bool true) (rn_eqlB Try.underlying4 rfl rfl) (by simp [leq_eq, hg69]))) ?_
        refine xa_p (by kernel_rfl) 32 73 [64, 72] rfl rfl rfl rfl rfl rfl rfl (pv_none (rn_pick_t rfl rfl rfl)) ?_
        refine xa_p (by kernel_rfl) 33 74 [73] rfl rfl rfl rfl rfl rfl rfl (pv_none (rn_move rfl)) ?_
        refine xa_l (by kernel_rfl) 34 75 [9, 74] rfl rfl rfl rfl rfl rfl rfl (pvl_run rfl rfl rfl (rl_own (q := 0) (v := .agg #[_, _, _]) tk24 rfl rfl rfl)) ?_
        refine xa_p (by kernel_rfl) 36 77 [12, 74] rfl rfl rfl rfl rfl rfl rfl (pv_run rfl rfl rfl (rn_move rfl)) ?_
        refine xa_effect (by kernel_rfl) 35 rfl rfl (by kernel_rfl) [34, 33, 32, 28, 23, 31, 27, 26, 22, 19, 30, 24, 25, 16, 21, 17, 18, 29, 15, 13, 20, 7, 14, 11, 12, 10, 6, 5, 8, 9, 2, 3, 4, 0, 1] (by kernel_rfl) rfl (pp' := [_]) (pl' := []) (hid := [77]) rfl rfl rfl ?_
        refine xo_guard_yes rfl rfl rfl ?_ rfl
        refine xo_callS rfl cl19 (vs := [_]) rfl (Zero_spec _ _ _ hu) ?_
        refine xo_nil ⟨⟨_, rfl⟩, fun _ hp => (by cases hp), ?_⟩
        refine xa_env (ρ' := [(77, _), (76, _), (75, _), (74, _), (73, _), (72, _), (71, _), (70, _), (69, _), (68, _), (67, _), (66, _), (65, _), (64, _), (63, _), (62, _), (61, _), (60, _), (59, _), (58, _), (57, _), (56, _), (55, _), (54, _), (53, _), (52, _), (51, _), (50, _), (49, _), (48, _), (47, _), (46, _), (45, _), (44, _), (43, _), (42, _), (41, _), (2, _), (3, _), (4, _), (5, _), (9, _), (10, _), (11, _), (12, _), (13, _)]) rfl ?_
        refine xa_p (by kernel_rfl) 37 78 [76, 77, 74] rfl rfl rfl rfl rfl rfl rfl (pv_run rfl rfl rfl (rn_cast (v' := .bool true) (rn_eqlB Try.underlying4 rfl rfl) (by simp [leq_eq]))) ?_
        refine xa_p (by kernel_rfl) 38 79 [74, 78] rfl rfl rfl rfl rfl rfl rfl (pv_none (rn_pick_t rfl rfl rfl)) ?_
        refine xa_p (by kernel_rfl) 39 80 [79] rfl rfl rfl rfl rfl rfl rfl (pv_none (rn_move rfl)) ?_
        refine xa_l (by kernel_rfl) 40 81 [9, 80] rfl rfl rfl rfl rfl rfl rfl (pvl_run rfl rfl rfl (rl_own (q := 0) (v := .agg #[_, _, _]) tk24 rfl rfl rfl)) ?_
        refine xa_p (by kernel_rfl) 42 83 [13, 80] rfl rfl rfl rfl rfl rfl rfl (pv_run rfl rfl rfl (rn_move rfl)) ?_
        refine xa_effect (by kernel_rfl) 41 rfl rfl (by kernel_rfl) [40, 39, 38, 35, 33, 37, 34, 32, 28, 36, 23, 31, 27, 26, 22, 19, 30, 24, 25, 16, 21, 17, 18, 29, 15, 13, 20, 7, 14, 11, 12, 10, 6, 5, 8, 9, 2, 3, 4, 0, 1] (by kernel_rfl) rfl (pp' := [_]) (pl' := []) (hid := [83]) rfl rfl rfl ?_
        refine xo_guard_yes rfl rfl rfl ?_ rfl
        refine xo_callS rfl cl20 (vs := [_]) rfl (Never_spec _ _ _ hu) ?_
        refine xo_nil ⟨⟨_, rfl⟩, fun _ hp => (by cases hp), ?_⟩
        refine xa_env (ρ' := [(83, _), (82, _), (81, _), (80, _), (79, _), (78, _), (77, _), (76, _), (75, _), (74, _), (73, _), (72, _), (71, _), (70, _), (69, _), (68, _), (67, _), (66, _), (65, _), (64, _), (63, _), (62, _), (61, _), (60, _), (59, _), (58, _), (57, _), (56, _), (55, _), (54, _), (53, _), (52, _), (51, _), (50, _), (49, _), (48, _), (47, _), (46, _), (45, _), (44, _), (43, _), (42, _), (41, _), (2, _), (3, _), (4, _), (5, _), (9, _), (10, _), (11, _), (12, _), (13, _)]) rfl ?_
        refine xa_p (by kernel_rfl) 43 84 [82, 83, 80] rfl rfl rfl rfl rfl rfl rfl (pv_run rfl rfl rfl (rn_cast (v' := .bool true) (rn_eqlB Try.underlying4 rfl rfl) (by simp [leq_eq]))) ?_
        refine xa_p (by kernel_rfl) 44 85 [80, 84] rfl rfl rfl rfl rfl rfl rfl (pv_none (rn_pick_t rfl rfl rfl)) ?_
        refine xa_p (by kernel_rfl) 45 86 [85] rfl rfl rfl rfl rfl rfl rfl (pv_none (rn_move rfl)) ?_
        refine xa_l (by kernel_rfl) 46 87 [9, 86] rfl rfl rfl rfl rfl rfl rfl (pvl_run rfl rfl rfl (rl_own (q := 0) (v := .agg #[_, _, _]) tk24 rfl rfl rfl)) ?_
        refine xa_l (by kernel_rfl) 48 89 [4, 86] rfl rfl rfl rfl rfl rfl rfl (pvl_run rfl rfl rfl (rl_own (q := 2) (v := .agg #[_, _, _]) tk24 rfl rfl rfl)) ?_
        refine xa_effect (by kernel_rfl) 47 rfl rfl (by kernel_rfl) [46, 45, 44, 41, 39, 43, 40, 38, 35, 42, 33, 37, 34, 32, 28, 36, 23, 31, 27, 26, 22, 19, 30, 24, 25, 16, 21, 17, 18, 29, 15, 13, 20, 7, 14, 11, 12, 10, 6, 5, 8, 9, 2, 3, 4, 0, 1] (by kernel_rfl) rfl (pp' := []) (pl' := [_]) (hid := [89]) rfl rfl rfl ?_
        refine xo_guard_yes rfl rfl rfl ?_ rfl
        refine xo_callS rfl cl21 (vs := [_]) rfl (Nodes_spec _ _ _ hu) ?_
        refine xo_nil ⟨⟨_, rfl⟩, List.forall_mem_cons.2 ⟨pvl_run rfl rfl rfl (rl_own (q := 2) (v := .agg #[_, _, _]) tk24 rfl rfl rfl), fun _ hp => (by cases hp)⟩, ?_⟩
        refine xa_env (ρ' := [(89, _), (88, _), (87, _), (86, _), (85, _), (84, _), (83, _), (82, _), (81, _), (80, _), (79, _), (78, _), (77, _), (76, _), (75, _), (74, _), (73, _), (72, _), (71, _), (70, _), (69, _), (68, _), (67, _), (66, _), (65, _), (64, _), (63, _), (62, _), (61, _), (60, _), (59, _), (58, _), (57, _), (56, _), (55, _), (54, _), (53, _), (52, _), (51, _), (50, _), (49, _), (48, _), (47, _), (46, _), (45, _), (44, _), (43, _), (42, _), (41, _), (2, _), (3, _), (4, _), (5, _), (9, _), (10, _), (11, _), (12, _), (13, _)]) rfl ?_
        refine xa_effect (by kernel_rfl) 49 rfl rfl (by kernel_rfl) [48, 47, 45, 46, 44, 41, 39, 43, 40, 38, 35, 42, 33, 37, 34, 32, 28, 36, 23, 31, 27, 26, 22, 19, 30, 24, 25, 16, 21, 17, 18, 29, 15, 13, 20, 7, 14, 11, 12, 10, 6, 5, 8, 9, 2, 3, 4, 0, 1] (by kernel_rfl) rfl (pp' := []) (pl' := []) (hid := []) rfl rfl rfl ?_
        refine xo_guard_yes rfl rfl rfl ?_ rfl
        refine xo_callS rfl cl22 (vs := [_, _]) rfl (LevelNodes_spec _ _ _ _ hx0 (by omega) (by omega)) ?_
        refine xo_nil ⟨⟨_, rfl⟩, fun _ hp => (by cases hp), ?_⟩
        refine xa_env (ρ' := [(90, _), (89, _), (88, _), (87, _), (86, _), (85, _), (84, _), (83, _), (82, _), (81, _), (80, _), (79, _), (78, _), (77, _), (76, _), (75, _), (74, _), (73, _), (72, _), (71, _), (70, _), (69, _), (68, _), (67, _), (66, _), (65, _), (64, _), (63, _), (62, _), (61, _), (60, _), (59, _), (58, _), (57, _), (56, _), (55, _), (54, _), (53, _), (52, _), (51, _), (50, _), (49, _), (48, _), (47, _), (46, _), (45, _), (44, _), (43, _), (42, _), (41, _), (2, _), (3, _), (4, _), (5, _), (9, _), (10, _), (11, _), (12, _), (13, _)]) rfl ?_
        refine xa_p (by kernel_rfl) 50 91 [88, 90, 86] rfl rfl rfl rfl rfl rfl rfl (pv_run rfl rfl rfl (rn_cast (v' := .bool true) (rn_eql rfl rfl) (by simp [nodes_ln]))) ?_
        refine xa_p (by kernel_rfl) 51 92 [86, 91] rfl rfl rfl rfl rfl rfl rfl (pv_none (rn_pick_t rfl rfl rfl)) ?_
        refine xa_p (by kernel_rfl) 52 93 [92] rfl rfl rfl rfl rfl rfl rfl (pv_none (rn_move rfl)) ?_
        refine xa_l (by kernel_rfl) 53 94 [9, 93] rfl rfl rfl rfl rfl rfl rfl (pvl_run rfl rfl rfl (rl_own (q := 0) (v := .agg #[_, _, _]) tk24 rfl rfl rfl)) ?_
        refine xa_l (by kernel_rfl) 54 95 [4, 93] rfl rfl rfl rfl rfl rfl rfl (pvl_run rfl rfl rfl (rl_own (q := 2) (v := .agg #[_, _, _]) tk24 rfl rfl rfl)) ?_
        refine xa_effect (by kernel_rfl) 55 rfl rfl (by kernel_rfl) [53, 54, 52, 51, 49, 45, 50, 48, 47, 44, 41, 46, 39, 43, 40, 38, 35, 42, 33, 37, 34, 32, 28, 36, 23, 31, 27, 26, 22, 19, 30, 24, 25, 16, 21, 17, 18, 29, 15, 13, 20, 7, 14, 11, 12, 10, 6, 5, 8, 9, 2, 3, 4, 0, 1] (by kernel_rfl) rfl (pp' := []) (pl' := []) (hid := []) rfl rfl rfl ?_
        refine xo_guard_yes rfl rfl rfl ?_ rfl
        refine xo_callS rfl cl23 (vs := [_, _]) rfl (SameLevel_self hu hx0) ?_
        refine xo_nil ⟨⟨_, rfl⟩, fun _ hp => (by cases hp), ?_⟩
        refine xa_env (ρ' := [(96, _), (95, _), (94, _), (93, _), (92, _), (91, _), (90, _), (89, _), (88, _), (87, _), (86, _), (85, _), (84, _), (83, _), (82, _), (81, _), (80, _), (79, _), (78, _), (77, _), (76, _), (75, _), (74, _), (73, _), (72, _), (71, _), (70, _), (69, _), (68, _), (67, _), (66, _), (65, _), (64, _), (63, _), (62, _), (61, _), (60, _), (59, _), (58, _), (57, _), (56, _), (55, _), (54, _), (53, _), (52, _), (51, _), (50, _), (49, _), (48, _), (47, _), (46, _), (45, _), (44, _), (43, _), (42, _), (41, _), (2, _), (3, _), (4, _), (5, _), (9, _), (10, _), (11, _), (12, _), (13, _)]) rfl ?_
        refine xa_p (by kernel_rfl) 56 97 [93, 96] rfl rfl rfl rfl rfl rfl rfl (pv_none (rn_pick_t rfl rfl rfl)) ?_
        refine xa_p (by kernel_rfl) 57 8 [97] rfl rfl rfl rfl rfl rfl rfl (pv_none (rn_assign rfl)) ?_
        refine xa_end (by kernel_rfl) rfl (kseq_normal ?_)
        refine x_ret ?_
        refine ⟨rfl, [_], .cons (.tmp rfl) (.nil), fin_drop (μ' := []) (List.nil_sublist _) (fin_done (ret_tup1 ?_))⟩
        rfl
      · have hg69_p := hg69
        try rw [Bool.not_eq_true'] at hg69_p
        try rw [Bool.not_eq_false'] at hg69_p
        try rw [decide_eq_true_eq] at hg69_p
        try rw [decide_eq_false_iff_not] at hg69_p
        try rw [Int.not_lt] at hg69_p
        try rw [Int.not_le] at hg69_p
        refine xa_p (by kernel_rfl) 29 70 [11, 69] rfl rfl rfl rfl rfl rfl rfl (pv_skip rfl rfl (by rw [hg69]; decide)) ?_
        refine xa_p (by kernel_rfl) 30 71 [69, 70, 64] rfl rfl rfl rfl rfl rfl rfl (pv_run rfl rfl rfl (rn_pick_f rfl hg69 rfl)) ?_
        refine xa_p (by kernel_rfl) 31 72 [67, 71, 64] rfl rfl rfl rfl rfl rfl rfl (pv_run rfl rfl rfl (rn_cast (v' := .bool true) (rn_eqlB Try.underlying4 rfl rfl) (by simp [leq_eq, hg69]))) ?_
        refine xa_p (by kernel_rfl) 32 73 [64, 72] rfl rfl rfl rfl rfl rfl rfl (pv_none (rn_pick_t rfl rfl rfl)) ?_
        refine xa_p (by kernel_rfl) 33 74 [73] rfl rfl rfl rfl rfl rfl rfl (pv_none (rn_move rfl)) ?_
        refine xa_l (by kernel_rfl) 34 75 [9, 74] rfl rfl rfl rfl rfl rfl rfl (pvl_run rfl rfl rfl (rl_own (q := 0) (v := .agg #[_, _, _]) tk24 rfl rfl rfl)) ?_
        refine xa_p (by kernel_rfl) 36 77 [12, 74] rfl rfl rfl rfl rfl rfl rfl (pv_run rfl rfl rfl (rn_move rfl)) ?_
        refine xa_effect (by kernel_rfl) 35 rfl rfl (by kernel_rfl) [34, 33, 32, 28, 23, 31, 27, 26, 22, 19, 30, 24, 25, 16, 21, 17, 18, 29, 15, 13, 20, 7, 14, 11, 12, 10, 6, 5, 8, 9, 2, 3, 4, 0, 1] (by kernel_rfl) rfl (pp' := [_]) (pl' := []) (hid := [77]) rfl rfl rfl ?_
        refine xo_guard_yes rfl rfl rfl ?_ rfl
        refine xo_callS rfl cl19 (vs := [_]) rfl (Zero_spec _ _ _ hu) ?_
        refine xo_nil ⟨⟨_, rfl⟩, fun _ hp => (by cases hp), ?_⟩
        refine xa_env (ρ' := [(77, _), (76, _), (75, _), (74, _), (73, _), (72, _), (71, _), (70, _), (69, _), (68, _), (67, _), (66, _), (65, _), (64, _), (63, _), (62, _), (61, _), (60, _), (59, _), (58, _), (57, _), (56, _), (55, _), (54, _), (53, _), (52, _), (51, _), (50, _), (49, _), (48, _), (47, _), (46, _), (45, _), (44, _), (43, _), (42, _), (41, _), (2, _), (3, _), (4, _), (5, _), (9, _), (10, _), (11, _), (12, _), (13, _)]) rfl ?_
        refine xa_p (by kernel_rfl) 37 78 [76, 77, 74] rfl rfl rfl rfl rfl rfl rfl (pv_run rfl rfl rfl (rn_cast (v' := .bool true) (rn_eqlB Try.underlying4 rfl rfl) (by simp [leq_eq]))) ?_
        refine xa_p (by kernel_rfl) 38 79 [74, 78] rfl rfl rfl rfl rfl rfl rfl (pv_none (rn_pick_t rfl rfl rfl)) ?_
        refine xa_p (by kernel_rfl) 39 80 [79] rfl rfl rfl rfl rfl rfl rfl (pv_none (rn_move rfl)) ?_
        refine xa_l (by kernel_rfl) 40 81 [9, 80] rfl rfl rfl rfl rfl rfl rfl (pvl_run rfl rfl rfl (rl_own (q := 0) (v := .agg #[_, _, _]) tk24 rfl rfl rfl)) ?_
        refine xa_p (by kernel_rfl) 42 83 [13, 80] rfl rfl rfl rfl rfl rfl rfl (pv_run rfl rfl rfl (rn_move rfl)) ?_
        refine xa_effect (by kernel_rfl) 41 rfl rfl (by kernel_rfl) [40, 39, 38, 35, 33, 37, 34, 32, 28, 36, 23, 31, 27, 26, 22, 19, 30, 24, 25, 16, 21, 17, 18, 29, 15, 13, 20, 7, 14, 11, 12, 10, 6, 5, 8, 9, 2, 3, 4, 0, 1] (by kernel_rfl) rfl (pp' := [_]) (pl' := []) (hid := [83]) rfl rfl rfl ?_
        refine xo_guard_yes rfl rfl rfl ?_ rfl
        refine xo_callS rfl cl20 (vs := [_]) rfl (Never_spec _ _ _ hu) ?_
        refine xo_nil ⟨⟨_, rfl⟩, fun _ hp => (by cases hp), ?_⟩
        refine xa_env (ρ' := [(83, _), (82, _), (81, _), (80, _), (79, _), (78, _), (77, _), (76, _), (75, _), (74, _), (73, _), (72, _), (71, _), (70, _), (69, _), (68, _), (67, _), (66, _), (65, _), (64, _), (63, _), (62, _), (61, _), (60, _), (59, _), (58, _), (57, _), (56, _), (55, _), (54, _), (53, _), (52, _), (51, _), (50, _), (49, _), (48, _), (47, _), (46, _), (45, _), (44, _), (43, _), (42, _), (41, _), (2, _), (3, _), (4, _), (5, _), (9, _), (10, _), (11, _), (12, _), (13, _)]) rfl ?_
        refine xa_p (by kernel_rfl) 43 84 [82, 83, 80] rfl rfl rfl rfl rfl rfl rfl (pv_run rfl rfl rfl (rn_cast (v' := .bool true) (rn_eqlB Try.underlying4 rfl rfl) (by simp [leq_eq]))) ?_
        refine xa_p (by kernel_rfl) 44 85 [80, 84] rfl rfl rfl rfl rfl rfl rfl (pv_none (rn_pick_t rfl rfl rfl)) ?_
        refine xa_p (by kernel_rfl) 45 86 [85] rfl rfl rfl rfl rfl rfl rfl (pv_none (rn_move rfl)) ?_
        refine xa_l (by kernel_rfl) 46 87 [9, 86] rfl rfl rfl rfl rfl rfl rfl (pvl_run rfl rfl rfl (rl_own (q := 0) (v := .agg #[_, _, _]) tk24 rfl rfl rfl)) ?_
        refine xa_l (by kernel_rfl) 48 89 [4, 86] rfl rfl rfl rfl rfl rfl rfl (pvl_run rfl rfl rfl (rl_own (q := 2) (v := .agg #[_, _, _]) tk24 rfl rfl rfl)) ?_
        refine xa_effect (by kernel_rfl) 47 rfl rfl (by kernel_rfl) [46, 45, 44, 41, 39, 43, 40, 38, 35, 42, 33, 37, 34, 32, 28, 36, 23, 31, 27, 26, 22, 19, 30, 24, 25, 16, 21, 17, 18, 29, 15, 13, 20, 7, 14, 11, 12, 10, 6, 5, 8, 9, 2, 3, 4, 0, 1] (by kernel_rfl) rfl (pp' := []) (pl' := [_]) (hid := [89]) rfl rfl rfl ?_
        refine xo_guard_yes rfl rfl rfl ?_ rfl
        refine xo_callS rfl cl21 (vs := [_]) rfl (Nodes_spec _ _ _ hu) ?_
        refine xo_nil ⟨⟨_, rfl⟩, List.forall_mem_cons.2 ⟨pvl_run rfl rfl rfl (rl_own (q := 2) (v := .agg #[_, _, _]) tk24 rfl rfl rfl), fun _ hp => (by cases hp)⟩, ?_⟩
        refine xa_env (ρ' := [(89, _), (88, _), (87, _), (86, _), (85, _), (84, _), (83, _), (82, _), (81, _), (80, _), (79, _), (78, _), (77, _), (76, _), (75, _), (74, _), (73, _), (72, _), (71, _), (70, _), (69, _), (68, _), (67, _), (66, _), (65, _), (64, _), (63, _), (62, _), (61, _), (60, _), (59, _), (58, _), (57, _), (56, _), (55, _), (54, _), (53, _), (52, _), (51, _), (50, _), (49, _), (48, _), (47, _), (46, _), (45, _), (44, _), (43, _), (42, _), (41, _), (2, _), (3, _), (4, _), (5, _), (9, _), (10, _), (11, _), (12, _), (13, _)]) rfl ?_
        refine xa_effect (by kernel_rfl) 49 rfl rfl (by kernel_rfl) [48, 47, 45, 46, 44, 41, 39, 43, 40, 38, 35, 42, 33, 37, 34, 32, 28, 36, 23, 31, 27, 26, 22, 19, 30, 24, 25, 16, 21, 17, 18, 29, 15, 13, 20, 7, 14, 11, 12, 10, 6, 5, 8, 9, 2, 3, 4, 0, 1] (by kernel_rfl) rfl (pp' := []) (pl' := []) (hid := []) rfl rfl rfl ?_
        refine xo_guard_yes rfl rfl rfl ?_ rfl
        refine xo_callS rfl cl22 (vs := [_, _]) rfl (LevelNodes_spec _ _ _ _ hx0 (by omega) (by omega)) ?_
        refine xo_nil ⟨⟨_, rfl⟩, fun _ hp => (by cases hp), ?_⟩
        refine xa_env (ρ' := [(90, _), (89, _), (88, _), (87, _), (86, _), (85, _), (84, _), (83, _), (82, _), (81, _), (80, _), (79, _), (78, _), (77, _), (76, _), (75, _), (74, _), (73, _), (72, _), (71, _), (70, _), (69, _), (68, _), (67, _), (66, _), (65, _), (64, _), (63, _), (62, _), (61, _), (60, _), (59, _), (58, _), (57, _), (56, _), (55, _), (54, _), (53, _), (52, _), (51, _), (50, _), (49, _), (48, _), (47, _), (46, _), (45, _), (44, _), (43, _), (42, _), (41, _), (2, _), (3, _), (4, _), (5, _), (9, _), (10, _), (11, _), (12, _), (13, _)]) rfl ?_
        refine xa_p (by kernel_rfl) 50 91 [88, 90, 86] rfl rfl rfl rfl rfl rfl rfl (pv_run rfl rfl rfl (rn_cast (v' := .bool true) (rn_eql rfl rfl) (by simp [nodes_ln]))) ?_
        refine xa_p (by kernel_rfl) 51 92 [86, 91] rfl rfl rfl rfl rfl rfl rfl (pv_none (rn_pick_t rfl rfl rfl)) ?_
        refine xa_p (by kernel_rfl) 52 93 [92] rfl rfl rfl rfl rfl rfl rfl (pv_none (rn_move rfl)) ?_
        refine xa_l (by kernel_rfl) 53 94 [9, 93] rfl rfl rfl rfl rfl rfl rfl (pvl_run rfl rfl rfl (rl_own (q := 0) (v := .agg #[_, _, _]) tk24 rfl rfl rfl)) ?_
        refine xa_l (by kernel_rfl) 54 95 [4, 93] rfl rfl rfl rfl rfl rfl rfl (pvl_run rfl rfl rfl (rl_own (q := 2) (v := .agg #[_, _, _]) tk24 rfl rfl rfl)) ?_
        refine xa_effect (by kernel_rfl) 55 rfl rfl (by kernel_rfl) [53, 54, 52, 51, 49, 45, 50, 48, 47, 44, 41, 46, 39, 43, 40, 38, 35, 42, 33, 37, 34, 32, 28, 36, 23, 31, 27, 26, 22, 19, 30, 24, 25, 16, 21, 17, 18, 29, 15, 13, 20, 7, 14, 11, 12, 10, 6, 5, 8, 9, 2, 3, 4, 0, 1] (by kernel_rfl) rfl (pp' := []) (pl' := []) (hid := []) rfl rfl rfl ?_
        refine xo_guard_yes rfl rfl rfl ?_ rfl
        refine xo_callS rfl cl23 (vs := [_, _]) rfl (SameLevel_self hu hx0) ?_
        refine xo_nil ⟨⟨_, rfl⟩, fun _ hp => (by cases hp), ?_⟩
        refine xa_env (ρ' := [(96, _), (95, _), (94, _), (93, _), (92, _), (91, _), (90, _), (89, _), (88, _), (87, _), (86, _), (85, _), (84, _), (83, _), (82, _), (81, _), (80, _), (79, _), (78, _), (77, _), (76, _), (75, _), (74, _), (73, _), (72, _), (71, _), (70, _), (69, _), (68, _), (67, _), (66, _), (65, _), (64, _), (63, _), (62, _), (61, _), (60, _), (59, _), (58, _), (57, _), (56, _), (55, _), (54, _), (53, _), (52, _), (51, _), (50, _), (49, _), (48, _), (47, _), (46, _), (45, _), (44, _), (43, _), (42, _), (41, _), (2, _), (3, _), (4, _), (5, _), (9, _), (10, _), (11, _), (12, _), (13, _)]) rfl ?_
        refine xa_p (by kernel_rfl) 56 97 [93, 96] rfl rfl rfl rfl rfl rfl rfl (pv_none (rn_pick_t rfl rfl rfl)) ?_
        refine xa_p (by kernel_rfl) 57 8 [97] rfl rfl rfl rfl rfl rfl rfl (pv_none (rn_assign rfl)) ?_
        refine xa_end (by kernel_rfl) rfl (kseq_normal ?_)
        refine x_ret ?_
        refine ⟨rfl, [_], .cons (.tmp rfl) (.nil), fin_drop (μ' := []) (List.nil_sublist _) (fin_done (ret_tup1 ?_))⟩
        rfl

end Go.Proofs.Ytagilgmgacpffaa

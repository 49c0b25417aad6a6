/-
  The laws LevelOrder and LevelMakes: their walks.
-/
import Derived.Test.YtagilgmgacpffaaLw
import Derived.Test.YtagilgmgacpffaaLp
namespace Go.Proofs.Ytagilgmgacpffaa
open Go Go.Gw

theorem LevelOrder_spec (x y z : Lv) (vs : List Int) (m : Mem) (cx cy cz : List Value) (sv : Value) (hx : LvV m x cx) (hy : LvV m y cy) (hz : LvV m z cz) (hs : IntsV m vs sv) :
    Scal Try.prog 5 #[.agg cx.toArray, .agg cy.toArray, .agg cz.toArray, sv] m (.bool true) := by
  refine scal_of ?_
  have hx0 := hx
  have hy0 := hy
  have hz0 := hz
  have hs0 := hs
  obtain ⟨kx, nx, lx, ax, capx, rfl, rfl, -, -, -, -⟩ := hx.open
  obtain ⟨ky, ny, ly, ay, capy, rfl, rfl, -, -, -, -⟩ := hy.open
  obtain ⟨kz, nz, lz, az, capz, rfl, rfl, -, -, -, -⟩ := hz.open
  obtain ⟨a, cap, rfl, hcap, hlen, hat⟩ := hs
  clear hat hx hy hz
  have hrefl := @leq_refl (.mk kx nx lx)
  have hval := fun h => @leq_value (.mk kx nx lx) (.mk ky ny ly) h vs
  have htr := @leq_trans (.mk kx nx lx) (.mk ky ny ly) (.mk kz nz lz)
  refine spec_body (vs := [_, _, _, _]) Try.func5 rfl Try.ntmps5 rfl (fun E => ?_)
  refine x_seq ?_
  refine x_region ?_
  refine xo_box rfl rfl (cs := [_, _, _]) rfl (fun b4 => ?_)
  refine xo_box rfl rfl (cs := [_, _, _]) rfl (fun b5 => ?_)
  refine xo_box rfl rfl (cs := [_, _, _]) rfl (fun b6 => ?_)
  refine xo_rn rfl (rn_assign rfl) ?_
  refine xo_nil (kseq_normal ?_)
  refine x_seq ?_
  refine x_seq ?_
  refine x_region ?_
  refine xo_callS rfl cl8 (vs := []) rfl (alive_spec _) ?_
  refine xo_rn rfl (rn_not rfl) ?_
  refine xo_nil (kseq_normal ?_)
  refine x_cond_false rfl ?_
  refine x_skip (kseq_normal ?_)
  refine x_seq ?_
  refine x_seq ?_
  refine x_cut (G := Bool) (fun g => [(3, .slice a vs.length cap), (4, .pointer (some ⟨b4, 0, none⟩)), (5, .pointer (some ⟨b5, 0, none⟩)), (6, .pointer (some ⟨b6, 0, none⟩)), (25, .bool g)])
    (fun _ => [bx b6 24 [.int .i64 kz, .int .i64 nz, .slice az lz.length capz], bx b5 24 [.int .i64 ky, .int .i64 ny, .slice ay ly.length capy], bx b4 24 [.int .i64 kx, .int .i64 nx, .slice ax lx.length capx]]) (fun _ m' => m = m') ?_ ?_
  · refine x_region ?_
    refine xo_rl rfl (rl_own (q := 2) (v := .agg #[_, _, _]) tk24 rfl rfl rfl) ?_
    refine xo_callS rfl cl9 (vs := [_]) rfl (great_spec _ _ _ hx0) ?_
    refine xo_rn rfl (rn_move rfl) ?_
    refine xo_guard rfl rfl (fun hg13 => ?_) (fun hg13 => ?_) rfl
    · have hg13_p := hg13
      try rw [Bool.not_eq_true'] at hg13_p
      try rw [Bool.not_eq_false'] at hg13_p
      try rw [decide_eq_true_eq] at hg13_p
      try rw [decide_eq_false_iff_not] at hg13_p
      try rw [Int.not_lt] at hg13_p
      try rw [Int.not_le] at hg13_p
      refine xo_rl rfl (rl_own (q := 1) (v := .agg #[_, _, _]) tk24 rfl rfl rfl) ?_
      refine xo_guard_yes rfl rfl hg13 ?_ rfl
      refine xo_callS rfl cl9 (vs := [_]) rfl (great_spec _ _ _ hy0) ?_
      refine xo_rn rfl (rn_pick_f rfl hg13 rfl) ?_
      refine xo_rn rfl (rn_move rfl) ?_
      refine xo_guard rfl rfl (fun hg17 => ?_) (fun hg17 => ?_) rfl
      · have hg17_p := hg17
        try rw [Bool.not_eq_true'] at hg17_p
        try rw [Bool.not_eq_false'] at hg17_p
        try rw [decide_eq_true_eq] at hg17_p
        try rw [decide_eq_false_iff_not] at hg17_p
        try rw [Int.not_lt] at hg17_p
        try rw [Int.not_le] at hg17_p
        refine xo_rl rfl (rl_own (q := 0) (v := .agg #[_, _, _]) tk24 rfl rfl rfl) ?_
        refine xo_guard_yes rfl rfl hg17 ?_ rfl
        refine xo_callS rfl cl9 (vs := [_]) rfl (great_spec _ _ _ hz0) ?_
        refine xo_rn rfl (rn_pick_f rfl hg17 rfl) ?_
        refine xo_rn rfl (rn_move rfl) ?_
        refine xo_guard rfl rfl (fun hg21 => ?_) (fun hg21 => ?_) rfl
        · have hg21_p := hg21
          try rw [Bool.not_eq_true'] at hg21_p
          try rw [Bool.not_eq_false'] at hg21_p
          try rw [decide_eq_true_eq] at hg21_p
          try rw [decide_eq_false_iff_not] at hg21_p
          try rw [Int.not_lt] at hg21_p
          try rw [Int.not_le] at hg21_p
          refine xo_rn rfl (rn_move rfl) ?_
          refine xo_guard_yes rfl rfl hg21 ?_ rfl
          refine xo_rn rfl (rn_len_slice tsl25 rfl) ?_
          refine xo_guard_yes rfl rfl hg21 ?_ rfl
          refine xo_rn rfl (rn_gtr rfl rfl) ?_
          refine xo_rn rfl (rn_pick_f rfl hg21 rfl) ?_
          refine xo_nil (kcut_normal ?_)
          exact ⟨_, rfl, ⟨rfl, rfl, rfl, rfl, rfl, trivial⟩, .cons_cons _ (.cons_cons _ (.cons_cons _ (.refl _))), rfl, Mem.le.refl _⟩
        · replace hg21 := ne_f hg21
          have hg21_p := hg21
          try rw [Bool.not_eq_true'] at hg21_p
          try rw [Bool.not_eq_false'] at hg21_p
          try rw [decide_eq_true_eq] at hg21_p
          try rw [decide_eq_false_iff_not] at hg21_p
          try rw [Int.not_lt] at hg21_p
          try rw [Int.not_le] at hg21_p
          dsimp only [putU]
          refine xo_guard_no rfl rfl (by rw [hg21]; decide) rfl ?_
          refine xo_guard_no rfl rfl (by rw [hg21]; decide) rfl ?_
          refine xo_rn rfl (rn_pick_t rfl hg21 rfl) ?_
          refine xo_nil (kcut_normal ?_)
          exact ⟨_, rfl, ⟨rfl, rfl, rfl, rfl, rfl, trivial⟩, .cons_cons _ (.cons_cons _ (.cons_cons _ (.refl _))), rfl, Mem.le.refl _⟩
      · replace hg17 := ne_f hg17
        have hg17_p := hg17
        try rw [Bool.not_eq_true'] at hg17_p
        try rw [Bool.not_eq_false'] at hg17_p
        try rw [decide_eq_true_eq] at hg17_p
        try rw [decide_eq_false_iff_not] at hg17_p
        try rw [Int.not_lt] at hg17_p
        try rw [Int.not_le] at hg17_p
        dsimp only [putU]
        refine xo_guard_no rfl rfl (by rw [hg17]; decide) rfl ?_
        refine xo_rn rfl (rn_pick_t rfl hg17 rfl) ?_
        refine xo_rn rfl (rn_move rfl) ?_
        refine xo_guard_no rfl rfl (by decide) rfl ?_
        refine xo_guard_no rfl rfl (by decide) rfl ?_
        refine xo_guard_no rfl rfl (by decide) rfl ?_
        refine xo_rn rfl (rn_pick_t rfl rfl rfl) ?_
        refine xo_nil (kcut_normal ?_)
        exact ⟨_, rfl, ⟨rfl, rfl, rfl, rfl, rfl, trivial⟩, .cons_cons _ (.cons_cons _ (.cons_cons _ (.refl _))), rfl, Mem.le.refl _⟩
    · replace hg13 := ne_f hg13
      have hg13_p := hg13
      try rw [Bool.not_eq_true'] at hg13_p
      try rw [Bool.not_eq_false'] at hg13_p
      try rw [decide_eq_true_eq] at hg13_p
      try rw [decide_eq_false_iff_not] at hg13_p
      try rw [Int.not_lt] at hg13_p
      try rw [Int.not_le] at hg13_p
      dsimp only [putU]
      refine xo_guard_no rfl rfl (by rw [hg13]; decide) rfl ?_
      refine xo_rn rfl (rn_pick_t rfl hg13 rfl) ?_
      refine xo_rn rfl (rn_move rfl) ?_
      refine xo_guard_no rfl rfl (by decide) rfl ?_
      refine xo_guard_no rfl rfl (by decide) rfl ?_
      refine xo_rn rfl (rn_pick_t rfl rfl rfl) ?_
      refine xo_rn rfl (rn_move rfl) ?_
      refine xo_guard_no rfl rfl (by decide) rfl ?_
      refine xo_guard_no rfl rfl (by decide) rfl ?_
      refine xo_guard_no rfl rfl (by decide) rfl ?_
      refine xo_rn rfl (rn_pick_t rfl rfl rfl) ?_
      refine xo_nil (kcut_normal ?_)
      exact ⟨_, rfl, ⟨rfl, rfl, rfl, rfl, rfl, trivial⟩, .cons_cons _ (.cons_cons _ (.cons_cons _ (.refl _))), rfl, Mem.le.refl _⟩
  · rintro _ _ rfl hle
    refine kseq_normal ?_
    refine x_cond rfl (fun hc25 => ?_) (fun hc25 => ?_)
    · have hc25b := hc25
      try rw [Bool.not_eq_true'] at hc25
      try rw [Bool.not_eq_false'] at hc25
      try rw [decide_eq_true_eq] at hc25
      try rw [decide_eq_false_iff_not] at hc25
      try rw [Int.not_lt] at hc25
      try rw [Int.not_le] at hc25
      refine x_seq ?_
      refine x_region ?_
      refine xo_rn rfl (rn_assign rfl) ?_
      refine xo_nil (kseq_normal ?_)
      refine x_ret (kseq_ret ?_)
      refine ⟨rfl, [_], .cons (.tmp rfl) (.nil), fin_drop (μ' := []) (List.nil_sublist _) (fin_done (ret_tup1 ?_))⟩
      first
        | rfl
        | (have h1 : leqF (.mk kx nx lx) (.mk ky ny ly) = true := by simpa using hg50
           have h2 : leqF (.mk ky ny ly) (.mk kz nz lz) = true := by simpa using hg56
           rw [htr h1 h2])
    · have hc25b := hc25
      try rw [Bool.not_eq_true'] at hc25
      try rw [Bool.not_eq_false'] at hc25
      try rw [decide_eq_true_eq] at hc25
      try rw [decide_eq_false_iff_not] at hc25
      try rw [Int.not_lt] at hc25
      try rw [Int.not_le] at hc25
      refine x_skip (kseq_normal ?_)
      refine x_seq ?_
      refine x_seq ?_
      refine x_cut (G := Unit) (fun _ => [(3, .slice a vs.length cap), (4, .pointer (some ⟨b4, 0, none⟩)), (5, .pointer (some ⟨b5, 0, none⟩)), (6, .pointer (some ⟨b6, 0, none⟩)), (33, .bool false)])
        (fun _ => [bx b6 24 [.int .i64 kz, .int .i64 nz, .slice az lz.length capz], bx b5 24 [.int .i64 ky, .int .i64 ny, .slice ay ly.length capy], bx b4 24 [.int .i64 kx, .int .i64 nx, .slice ax lx.length capx]]) (fun _ m' => m = m') ?_ ?_
      · refine x_region ?_
        refine xo_rl rfl (rl_own (q := 2) (v := .agg #[_, _, _]) tk24 rfl rfl rfl) ?_
        refine xo_callS rfl cl13 (vs := [_, _]) rfl (Right_spec _ _ _ _ hx0) ?_
        refine xo_rn rfl (rn_move rfl) ?_
        refine xo_guard rfl rfl (fun hg28 => ?_) (fun hg28 => ?_) rfl
        · have hg28_p := hg28
          try rw [Bool.not_eq_true'] at hg28_p
          try rw [Bool.not_eq_false'] at hg28_p
          try rw [decide_eq_true_eq] at hg28_p
          try rw [decide_eq_false_iff_not] at hg28_p
          try rw [Int.not_lt] at hg28_p
          try rw [Int.not_le] at hg28_p
          refine xo_rl rfl (rl_own (q := 2) (v := .agg #[_, _, _]) tk24 rfl rfl rfl) ?_
          refine xo_guard_yes rfl rfl hg28 ?_ rfl
          refine xo_rl rfl (rl_own (q := 2) (v := .agg #[_, _, _]) tk24 rfl rfl rfl) ?_
          refine xo_guard_yes rfl rfl hg28 ?_ rfl
          refine xo_callS rfl cl17 (vs := [_, _]) rfl (Leq_spec _ _ _ _ _ hx0 hx0) ?_
          refine xo_guard_yes rfl rfl hg28 ?_ rfl
          refine xo_rn rfl (rn_not rfl) ?_
          refine xo_rn rfl (rn_pick_t rfl hg28 rfl) ?_
          refine xo_nil (kcut_normal ?_)
          refine ⟨(), rfl, ⟨rfl, rfl, rfl, rfl, ?_, trivial⟩, .cons_cons _ (.cons_cons _ (.cons_cons _ (.refl _))), rfl, Mem.le.refl _⟩
          refine congrArg (fun b => some (Value.bool b)) ?_
          first
            | rfl
            | (rw [hrefl hg28]; rfl)
        · replace hg28 := ne_t hg28
          have hg28_p := hg28
          try rw [Bool.not_eq_true'] at hg28_p
          try rw [Bool.not_eq_false'] at hg28_p
          try rw [decide_eq_true_eq] at hg28_p
          try rw [decide_eq_false_iff_not] at hg28_p
          try rw [Int.not_lt] at hg28_p
          try rw [Int.not_le] at hg28_p
          dsimp only [putU]
          refine xo_guard_no rfl rfl (by rw [hg28]; decide) rfl ?_
          refine xo_guard_no rfl rfl (by rw [hg28]; decide) rfl ?_
          refine xo_guard_no rfl rfl (by rw [hg28]; decide) rfl ?_
          refine xo_rn rfl (rn_pick_f rfl hg28 rfl) ?_
          refine xo_nil (kcut_normal ?_)
          refine ⟨(), rfl, ⟨rfl, rfl, rfl, rfl, ?_, trivial⟩, .cons_cons _ (.cons_cons _ (.cons_cons _ (.refl _))), rfl, Mem.le.refl _⟩
          refine congrArg (fun b => some (Value.bool b)) ?_
          first
            | rfl
            | (rw [hrefl hg28]; rfl)
      · rintro _ _ rfl hle
        refine kseq_normal ?_
        refine x_cond_false rfl ?_
        refine x_skip (kseq_normal ?_)
        refine x_seq ?_
        refine x_seq ?_
        refine x_cut (G := Unit) (fun _ => [(3, .slice a vs.length cap), (4, .pointer (some ⟨b4, 0, none⟩)), (5, .pointer (some ⟨b5, 0, none⟩)), (6, .pointer (some ⟨b6, 0, none⟩)), (45, .bool false)])
          (fun _ => [bx b6 24 [.int .i64 kz, .int .i64 nz, .slice az lz.length capz], bx b5 24 [.int .i64 ky, .int .i64 ny, .slice ay ly.length capy], bx b4 24 [.int .i64 kx, .int .i64 nx, .slice ax lx.length capx]]) (fun _ m' => m = m') ?_ ?_
        · refine x_env (ρ' := [(3, _), (4, _), (5, _), (6, _), (33, _)]) ⟨rfl, rfl, rfl, rfl, rfl, trivial⟩ ?_
          refine x_region_draw (by kernel_rfl) ?_
          refine xa_l (by kernel_rfl) 0 34 [4] rfl rfl rfl rfl rfl rfl rfl (pvl_none (rl_own (q := 2) (v := .agg #[_, _, _]) tk24 rfl rfl rfl)) ?_
          refine xa_l (by kernel_rfl) 1 35 [5] rfl rfl rfl rfl rfl rfl rfl (pvl_none (rl_own (q := 1) (v := .agg #[_, _, _]) tk24 rfl rfl rfl)) ?_
          refine xa_effect (by kernel_rfl) 2 rfl rfl (by kernel_rfl) [0, 1] (by kernel_rfl) rfl (pp' := []) (pl' := []) (hid := []) rfl rfl rfl ?_
          refine xo_callS rfl cl17 (vs := [_, _]) rfl (Leq_spec _ _ _ _ _ hx0 hy0) ?_
          refine xo_nil ⟨⟨_, rfl⟩, fun _ hp => (by cases hp), ?_⟩
          refine xa_env (ρ' := [(36, _), (35, _), (34, _), (3, _), (4, _), (5, _), (6, _), (33, _)]) rfl ?_
          refine xa_p (by kernel_rfl) 3 37 [36] rfl rfl rfl rfl rfl rfl rfl (pv_none (rn_move rfl)) ?_
          refine xa_split (t := 37) rfl (fun hg37 => ?_) (fun hg37 => ?_)
          · have hg37_p := hg37
            try rw [Bool.not_eq_true'] at hg37_p
            try rw [Bool.not_eq_false'] at hg37_p
            try rw [decide_eq_true_eq] at hg37_p
            try rw [decide_eq_false_iff_not] at hg37_p
            try rw [Int.not_lt] at hg37_p
            try rw [Int.not_le] at hg37_p
            refine xa_l (by kernel_rfl) 4 38 [4, 37] rfl rfl rfl rfl rfl rfl rfl (pvl_run rfl rfl hg37 (rl_own (q := 2) (v := .agg #[_, _, _]) tk24 rfl rfl rfl)) ?_
            refine xa_p (by kernel_rfl) 5 39 [3, 37] rfl rfl rfl rfl rfl rfl rfl (pv_run rfl rfl hg37 (rn_move rfl)) ?_
            refine xa_l (by kernel_rfl) 7 41 [5, 37] rfl rfl rfl rfl rfl rfl rfl (pvl_run rfl rfl hg37 (rl_own (q := 1) (v := .agg #[_, _, _]) tk24 rfl rfl rfl)) ?_
            refine xa_p (by kernel_rfl) 8 42 [3, 37] rfl rfl rfl rfl rfl rfl rfl (pv_run rfl rfl hg37 (rn_move rfl)) ?_
            refine xa_effect (by kernel_rfl) 6 rfl rfl (by kernel_rfl) [4, 5, 3, 2, 0, 1] (by kernel_rfl) rfl (pp' := [_]) (pl' := [_]) (hid := [42, 41]) rfl rfl rfl ?_
            refine xo_guard_yes rfl rfl hg37 ?_ rfl
            refine xo_callS rfl cl15 (vs := [_, _]) rfl (Value_spec _ _ _ _ _ hx0 hs0) ?_
            refine xo_nil ⟨⟨_, rfl⟩, List.forall_mem_cons.2 ⟨pvl_run rfl rfl hg37 (rl_own (q := 1) (v := .agg #[_, _, _]) tk24 rfl rfl rfl), fun _ hp => (by cases hp)⟩, ?_⟩
            refine xa_env (ρ' := [(42, _), (41, _), (40, _), (39, _), (38, _), (37, _), (36, _), (35, _), (34, _), (3, _), (4, _), (5, _), (6, _), (33, _)]) rfl ?_
            refine xa_effect (by kernel_rfl) 9 rfl rfl (by kernel_rfl) [7, 8, 6, 3, 4, 5, 2, 0, 1] (by kernel_rfl) rfl (pp' := []) (pl' := []) (hid := []) rfl rfl rfl ?_
            refine xo_guard_yes rfl rfl hg37 ?_ rfl
            refine xo_callS rfl cl15 (vs := [_, _]) rfl (Value_spec _ _ _ _ _ hy0 hs0) ?_
            refine xo_nil ⟨⟨_, rfl⟩, fun _ hp => (by cases hp), ?_⟩
            refine xa_env (ρ' := [(43, _), (42, _), (41, _), (40, _), (39, _), (38, _), (37, _), (36, _), (35, _), (34, _), (3, _), (4, _), (5, _), (6, _), (33, _)]) rfl ?_
            refine xa_p (by kernel_rfl) 10 44 [40, 43, 37] rfl rfl rfl rfl rfl rfl rfl (pv_run rfl rfl hg37 (rn_gtr rfl rfl)) ?_
            refine xa_p (by kernel_rfl) 11 45 [37, 44] rfl rfl rfl rfl rfl rfl rfl (pv_none (rn_pick_t rfl hg37 rfl)) ?_
            refine xa_end (by kernel_rfl) rfl (kcut_normal ?_)
            refine ⟨(), rfl, ⟨rfl, rfl, rfl, rfl, ?_, trivial⟩, .cons_cons _ (.cons_cons _ (.cons_cons _ (.refl _))), rfl, Mem.le.refl _⟩
            refine congrArg (fun b => some (Value.bool b)) ?_
            first
              | rfl
              | (have hvv := hval hg37
                 exact decide_eq_false (by omega))
          · have hg37_p := hg37
            try rw [Bool.not_eq_true'] at hg37_p
            try rw [Bool.not_eq_false'] at hg37_p
            try rw [decide_eq_true_eq] at hg37_p
            try rw [decide_eq_false_iff_not] at hg37_p
            try rw [Int.not_lt] at hg37_p
            try rw [Int.not_le] at hg37_p
            refine xa_p (by kernel_rfl) 4 38 [4, 37] rfl rfl rfl rfl rfl rfl rfl (pv_skip rfl rfl (by rw [hg37]; decide)) ?_
            refine xa_p (by kernel_rfl) 5 39 [3, 37] rfl rfl rfl rfl rfl rfl rfl (pv_skip rfl rfl (by rw [hg37]; decide)) ?_
            refine xa_p (by kernel_rfl) 7 41 [5, 37] rfl rfl rfl rfl rfl rfl rfl (pv_skip rfl rfl (by rw [hg37]; decide)) ?_
            refine xa_p (by kernel_rfl) 8 42 [3, 37] rfl rfl rfl rfl rfl rfl rfl (pv_skip rfl rfl (by rw [hg37]; decide)) ?_
            refine xa_effect (by kernel_rfl) 6 rfl rfl (by kernel_rfl) [4, 5, 3, 2, 0, 1] (by kernel_rfl) rfl (pp' := [_, _]) (pl' := []) (hid := [42, 41]) rfl rfl rfl ?_
            refine xo_guard_no rfl rfl (by rw [hg37]; decide) rfl ?_
            refine xo_nil ⟨⟨_, rfl⟩, fun _ hp => (by cases hp), ?_⟩
            refine xa_env (ρ' := [(42, _), (41, _), (40, _), (39, _), (38, _), (37, _), (36, _), (35, _), (34, _), (3, _), (4, _), (5, _), (6, _), (33, _)]) rfl ?_
            refine xa_effect (by kernel_rfl) 9 rfl rfl (by kernel_rfl) [7, 8, 6, 3, 4, 5, 2, 0, 1] (by kernel_rfl) rfl (pp' := []) (pl' := []) (hid := []) rfl rfl rfl ?_
            refine xo_guard_no rfl rfl (by rw [hg37]; decide) rfl ?_
            refine xo_nil ⟨⟨_, rfl⟩, fun _ hp => (by cases hp), ?_⟩
            refine xa_env (ρ' := [(43, _), (42, _), (41, _), (40, _), (39, _), (38, _), (37, _), (36, _), (35, _), (34, _), (3, _), (4, _), (5, _), (6, _), (33, _)]) rfl ?_
            refine xa_p (by kernel_rfl) 10 44 [40, 43, 37] rfl rfl rfl rfl rfl rfl rfl (pv_skip rfl rfl (by rw [hg37]; decide)) ?_
            refine xa_p (by kernel_rfl) 11 45 [37, 44] rfl rfl rfl rfl rfl rfl rfl (pv_none (rn_pick_f rfl hg37 rfl)) ?_
            refine xa_end (by kernel_rfl) rfl (kcut_normal ?_)
            refine ⟨(), rfl, ⟨rfl, rfl, rfl, rfl, ?_, trivial⟩, .cons_cons _ (.cons_cons _ (.cons_cons _ (.refl _))), rfl, Mem.le.refl _⟩
            refine congrArg (fun b => some (Value.bool b)) ?_
            first
              | rfl
              | (have hvv := hval hg37
                 exact decide_eq_false (by omega))
        · rintro _ _ rfl hle
          refine kseq_normal ?_
          refine x_cond_false rfl ?_
          refine x_skip (kseq_normal ?_)
          refine x_seq ?_
          refine x_region ?_
          refine xo_rl rfl (rl_own (q := 2) (v := .agg #[_, _, _]) tk24 rfl rfl rfl) ?_
          refine xo_rl rfl (rl_own (q := 1) (v := .agg #[_, _, _]) tk24 rfl rfl rfl) ?_
          refine xo_callS rfl cl17 (vs := [_, _]) rfl (Leq_spec _ _ _ _ _ hx0 hy0) ?_
          refine xo_rn rfl (rn_not rfl) ?_
          refine xo_rn rfl (rn_move rfl) ?_
          refine xo_guard rfl rfl (fun hg50 => ?_) (fun hg50 => ?_) rfl
          · have hg50_p := hg50
            try rw [Bool.not_eq_true'] at hg50_p
            try rw [Bool.not_eq_false'] at hg50_p
            try rw [decide_eq_true_eq] at hg50_p
            try rw [decide_eq_false_iff_not] at hg50_p
            try rw [Int.not_lt] at hg50_p
            try rw [Int.not_le] at hg50_p
            refine xo_rl rfl (rl_own (q := 1) (v := .agg #[_, _, _]) tk24 rfl rfl rfl) ?_
            refine xo_guard_yes rfl rfl hg50 ?_ rfl
            refine xo_rl rfl (rl_own (q := 0) (v := .agg #[_, _, _]) tk24 rfl rfl rfl) ?_
            refine xo_guard_yes rfl rfl hg50 ?_ rfl
            refine xo_callS rfl cl17 (vs := [_, _]) rfl (Leq_spec _ _ _ _ _ hy0 hz0) ?_
            refine xo_guard_yes rfl rfl hg50 ?_ rfl
            refine xo_rn rfl (rn_not rfl) ?_
            refine xo_rn rfl (rn_pick_f rfl hg50 rfl) ?_
            refine xo_rn rfl (rn_move rfl) ?_
            refine xo_guard rfl rfl (fun hg56 => ?_) (fun hg56 => ?_) rfl
            · have hg56_p := hg56
              try rw [Bool.not_eq_true'] at hg56_p
              try rw [Bool.not_eq_false'] at hg56_p
              try rw [decide_eq_true_eq] at hg56_p
              try rw [decide_eq_false_iff_not] at hg56_p
              try rw [Int.not_lt] at hg56_p
              try rw [Int.not_le] at hg56_p
              refine xo_rl rfl (rl_own (q := 2) (v := .agg #[_, _, _]) tk24 rfl rfl rfl) ?_
              refine xo_guard_yes rfl rfl hg56 ?_ rfl
              refine xo_rl rfl (rl_own (q := 0) (v := .agg #[_, _, _]) tk24 rfl rfl rfl) ?_
              refine xo_guard_yes rfl rfl hg56 ?_ rfl
              refine xo_callS rfl cl17 (vs := [_, _]) rfl (Leq_spec _ _ _ _ _ hx0 hz0) ?_
              refine xo_rn rfl (rn_pick_f rfl hg56 rfl) ?_
              refine xo_rn rfl (rn_assign rfl) ?_
              refine xo_nil (kseq_normal ?_)
              refine x_ret ?_
              refine ⟨rfl, [_], .cons (.tmp rfl) (.nil), fin_drop (μ' := []) (List.nil_sublist _) (fin_done (ret_tup1 ?_))⟩
              first
                | rfl
                | (have h1 : leqF (.mk kx nx lx) (.mk ky ny ly) = true := by simpa using hg50
                   have h2 : leqF (.mk ky ny ly) (.mk kz nz lz) = true := by simpa using hg56
                   rw [htr h1 h2])
            · replace hg56 := ne_f hg56
              have hg56_p := hg56
              try rw [Bool.not_eq_true'] at hg56_p
              try rw [Bool.not_eq_false'] at hg56_p
              try rw [decide_eq_true_eq] at hg56_p
              try rw [decide_eq_false_iff_not] at hg56_p
              try rw [Int.not_lt] at hg56_p
              try rw [Int.not_le] at hg56_p
              dsimp only [putU]
              refine xo_guard_no rfl rfl (by rw [hg56]; decide) rfl ?_
              refine xo_guard_no rfl rfl (by rw [hg56]; decide) rfl ?_
              refine xo_rn rfl (rn_pick_t rfl hg56 rfl) ?_
              refine xo_rn rfl (rn_assign rfl) ?_
              refine xo_nil (kseq_normal ?_)
              refine x_ret ?_
              refine ⟨rfl, [_], .cons (.tmp rfl) (.nil), fin_drop (μ' := []) (List.nil_sublist _) (fin_done (ret_tup1 ?_))⟩
              first
                | rfl
                | (have h1 : leqF (.mk kx nx lx) (.mk ky ny ly) = true := by simpa using hg50
                   have h2 : leqF (.mk ky ny ly) (.mk kz nz lz) = true := by simpa using hg56
                   rw [htr h1 h2])
          · replace hg50 := ne_f hg50
            have hg50_p := hg50
            try rw [Bool.not_eq_true'] at hg50_p
            try rw [Bool.not_eq_false'] at hg50_p
            try rw [decide_eq_true_eq] at hg50_p
            try rw [decide_eq_false_iff_not] at hg50_p
            try rw [Int.not_lt] at hg50_p
            try rw [Int.not_le] at hg50_p
            dsimp only [putU]
            refine xo_guard_no rfl rfl (by rw [hg50]; decide) rfl ?_
            refine xo_guard_no rfl rfl (by rw [hg50]; decide) rfl ?_
            refine xo_guard_no rfl rfl (by rw [hg50]; decide) rfl ?_
            refine xo_rn rfl (rn_pick_t rfl hg50 rfl) ?_
            refine xo_rn rfl (rn_move rfl) ?_
            refine xo_guard_no rfl rfl (by decide) rfl ?_
            refine xo_guard_no rfl rfl (by decide) rfl ?_
            refine xo_guard_no rfl rfl (by decide) rfl ?_
            refine xo_rn rfl (rn_pick_t rfl rfl rfl) ?_
            refine xo_rn rfl (rn_assign rfl) ?_
            refine xo_nil (kseq_normal ?_)
            refine x_ret ?_
            refine ⟨rfl, [_], .cons (.tmp rfl) (.nil), fin_drop (μ' := []) (List.nil_sublist _) (fin_done (ret_tup1 ?_))⟩
            first
              | rfl
              | (have h1 : leqF (.mk kx nx lx) (.mk ky ny ly) = true := by simpa using hg50
                 have h2 : leqF (.mk ky ny ly) (.mk kz nz lz) = true := by simpa using hg56
                 rw [htr h1 h2])

end Go.Proofs.Ytagilgmgacpffaa

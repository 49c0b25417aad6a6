/-
  The laws of layer 3: their walks.
-/
import Derived.Test.YtagilgmgacpffaaLa
namespace Go.Proofs.Ytagilgmgacpffaa
open Go Go.Gw

theorem right_num (n p : Int) (hp : 0 ≤ p) (hp4 : p ≤ 4) : rightF (.mk 1 n []) p = decide (0 ≤ n ∧ n ≤ 100) := by
  have h1 : nodesF (.mk 1 n []) = 1 := by rw [nodesF_eq]; simp [sizeL, sizeLs]; omega
  unfold rightF
  rw [h1]
  have e0 : decide (0 ≤ p) = true := by simpa using hp
  have e1 : decide (p ≤ 4) = true := by simpa using hp4
  rw [e0, e1]
  simp [allF, allFs, nodeF, wideF]
theorem right_param (k p : Int) (hp : 0 ≤ p) (hp4 : p ≤ 4) : rightF (.mk 2 k []) p = decide (0 ≤ k ∧ k < p) := by
  have h1 : nodesF (.mk 2 k []) = 1 := by rw [nodesF_eq]; simp [sizeL, sizeLs]; omega
  unfold rightF
  rw [h1]
  have e0 : decide (0 ≤ p) = true := by simpa using hp
  have e1 : decide (p ≤ 4) = true := by simpa using hp4
  rw [e0, e1]
  simp [allF, allFs, nodeF, wideF]
theorem value_num (n : Int) (vs : List Int) (h : 0 ≤ n ∧ n ≤ 100) : valueF (.mk 1 n []) vs = n := by
  unfold valueF
  rw [right_num n 4 (by omega) (by omega), if_pos (by simpa using h)]
  simp [valF, valNode]
theorem value_param (k : Int) (vs : List Int) : valueF (.mk 2 k []) vs = if 0 ≤ k ∧ k < 4 then clampF vs k else 0 := by
  unfold valueF
  rw [right_param k 4 (by omega) (by omega)]
  by_cases h : 0 ≤ k ∧ k < 4
  · simp [h, valF, valNode]
  · simp [h]
theorem zero_num (n : Int) (h : 0 ≤ n ∧ n ≤ 100) : leqF (.mk 1 n []) (.mk 1 0 []) = decide (n = 0) := by
  have hf : ∀ k z : Int, formF (.mk 1 k []) z = constF k := fun k z => by simp [formF, formNode]
  have hb : belowF (constF n) (constF 0) = decide (n ≤ 0) := by simp [belowF, offsTo, constF, leastF, leastTo]
  have ht : ∀ g, leqTo (.mk 1 n []) (.mk 1 0 []) (g + 1) = decide (n ≤ 0) := by
    intro g
    induction g with
    | zero => simp [leqTo, hf, hb]
    | succ g ih => rw [leqTo, ih, hf, hf, hb, Bool.and_self]
  unfold leqF
  rw [right_num n 4 (by omega) (by omega), right_num 0 4 (by omega) (by omega), ht 15]
  simp [h]
  omega

theorem LevelNums_spec (nn k : Int) (vs : List Int) (m : Mem) (sv : Value) (hn : i64 nn) (hk : i64 k) (hs : IntsV m vs sv) : Scal Try.prog 7 #[.int .i64 nn, .int .i64 k, sv] m (.bool true) := by
  refine scal_of ?_
  have hs0 := hs
  obtain ⟨a, cap, rfl, hcap, hlen, hat⟩ := hs
  have hl1 : ∀ m', LvV m' (.mk 1 nn []) [.int .i64 1, .int .i64 nn, .slice none 0 0] := fun _ => LvV.leaf 1 nn (by unfold i64; omega) hn
  have hl2 : ∀ m', LvV m' (.mk 2 k []) [.int .i64 2, .int .i64 k, .slice none 0 0] := fun _ => LvV.leaf 2 k (by unfold i64; omega) hk
  have hr0 := right_num nn 0 (by omega) (by omega)
  have hr4 := right_param k 4 (by omega) (by omega)
  have hv1 := value_num nn vs
  have hv2 := value_param k vs
  have hz := zero_num nn
  refine spec_body (vs := [_, _, _]) Try.func7 rfl Try.ntmps7 rfl (fun E => ?_)
  refine x_seq ?_
  refine x_region ?_
  refine xo_rn rfl (rn_assign rfl) ?_
  refine xo_nil (kseq_normal ?_)
  refine x_seq ?_
  refine x_seq ?_
  refine x_region ?_
  refine xo_callS rfl cl8 (vs := []) rfl (alive_spec _) ?_
  refine xo_rn rfl (rn_not rfl) ?_
  refine xo_nil (kseq_normal ?_)
  refine x_cond_false rfl ?_
  refine x_skip (kseq_normal ?_)
  refine x_seq ?_
  refine x_seq ?_
  refine x_region ?_
  refine xo_rn rfl (rn_move rfl) ?_
  refine xo_rn rfl (rn_len_slice tsl25 rfl) ?_
  refine xo_rn rfl (rn_gtr rfl rfl) ?_
  refine xo_nil (kseq_normal ?_)
  refine x_cond rfl (fun hc13 => ?_) (fun hc13 => ?_)
  · have hc13b := hc13
    try rw [Bool.not_eq_true'] at hc13
    try rw [Bool.not_eq_false'] at hc13
    try rw [decide_eq_true_eq] at hc13
    try rw [decide_eq_false_iff_not] at hc13
    try rw [Int.not_lt] at hc13
    try rw [Int.not_le] at hc13
    refine x_seq ?_
    refine x_region ?_
    refine xo_rn rfl (rn_assign rfl) ?_
    refine xo_nil (kseq_normal ?_)
    refine x_ret (kseq_ret ?_)
    refine ⟨rfl, [_], .cons (.tmp rfl) (.nil), fin_done (ret_tup1 ?_)⟩
    rfl
  · have hc13b := hc13
    try rw [Bool.not_eq_true'] at hc13
    try rw [Bool.not_eq_false'] at hc13
    try rw [decide_eq_true_eq] at hc13
    try rw [decide_eq_false_iff_not] at hc13
    try rw [Int.not_lt] at hc13
    try rw [Int.not_le] at hc13
    refine x_skip (kseq_normal ?_)
    refine x_seq ?_
    refine x_region ?_
    refine xo_rn rfl (rn_move rfl) ?_
    refine xo_callS rfl cl12 (vs := [_]) rfl (Num_spec _ _) ?_
    refine xo_alloc rfl tz24 (cs := [_, _, _]) rfl (fun b7 => ?_)
    refine xo_store (q := 0) (vs := [_, _, _]) (cs' := [_, _, _]) (μ' := [_]) tk24 rfl rfl rfl rfl rfl rfl rfl rfl rfl ?_
    refine xo_nil (kseq_normal ?_)
    refine x_seq ?_
    refine x_region ?_
    refine xo_rn rfl (rn_move rfl) ?_
    refine xo_callS rfl cl29 (vs := [_]) rfl (Param_spec _ _) ?_
    refine xo_alloc rfl tz24 (cs := [_, _, _]) rfl (fun b8 => ?_)
    refine xo_store (q := 0) (vs := [_, _, _]) (cs' := [_, _, _]) (μ' := [_, _]) tk24 rfl rfl rfl rfl rfl rfl rfl rfl rfl ?_
    refine xo_nil (kseq_normal ?_)
    refine x_seq ?_
    refine x_seq ?_
    refine x_cut (G := Unit) (fun _ => [(0, .int .i64 nn), (1, .int .i64 k), (2, .slice a vs.length cap), (7, .pointer (some ⟨b7, 0, none⟩)), (8, .pointer (some ⟨b8, 0, none⟩)), (37, .bool false)])
      (fun _ => [bx b8 24 [.int .i64 2, .int .i64 k, .slice none 0 0], bx b7 24 [.int .i64 1, .int .i64 nn, .slice none 0 0]]) (fun _ m' => m = m') ?_ ?_
    · refine x_region ?_
      refine xo_rl rfl (rl_own (q := 1) (v := .agg #[_, _, _]) tk24 rfl rfl rfl) ?_
      refine xo_callS rfl cl13 (vs := [_, _]) rfl (Right_is (hl1 _) hr0) ?_
      refine xo_rn rfl (rn_move rfl) ?_
      refine xo_rn rfl (rn_geq rfl rfl) ?_
      refine xo_rn rfl (rn_move rfl) ?_
      refine xo_guard rfl rfl (fun hg22 => ?_) (fun hg22 => ?_) rfl
      · have hg22_p := hg22
        try rw [Bool.not_eq_true'] at hg22_p
        try rw [Bool.not_eq_false'] at hg22_p
        try rw [decide_eq_true_eq] at hg22_p
        try rw [decide_eq_false_iff_not] at hg22_p
        try rw [Int.not_lt] at hg22_p
        try rw [Int.not_le] at hg22_p
        refine xo_rn rfl (rn_move rfl) ?_
        refine xo_guard_yes rfl rfl hg22 ?_ rfl
        refine xo_rn rfl (rn_leq rfl rfl) ?_
        refine xo_rn rfl (rn_pick_t rfl hg22 rfl) ?_
        refine xo_rn rfl (rn_neqB Try.underlying4 rfl rfl) ?_
        refine xo_rn rfl (rn_move rfl) ?_
        refine xo_guard rfl rfl (fun hg27 => ?_) (fun hg27 => ?_) rfl
        · have hg27_p := hg27
          try rw [Bool.not_eq_true'] at hg27_p
          try rw [Bool.not_eq_false'] at hg27_p
          try rw [decide_eq_true_eq] at hg27_p
          try rw [decide_eq_false_iff_not] at hg27_p
          try rw [Int.not_lt] at hg27_p
          try rw [Int.not_le] at hg27_p
          refine xo_rl rfl (rl_own (q := 0) (v := .agg #[_, _, _]) tk24 rfl rfl rfl) ?_
          refine xo_guard_yes rfl rfl hg27 ?_ rfl
          refine xo_callS rfl cl13 (vs := [_, _]) rfl (Right_is (hl2 _) hr4) ?_
          refine xo_guard_yes rfl rfl hg27 ?_ rfl
          refine xo_rn rfl (rn_move rfl) ?_
          refine xo_guard_yes rfl rfl hg27 ?_ rfl
          refine xo_rn rfl (rn_geq rfl rfl) ?_
          refine xo_guard_yes rfl rfl hg27 ?_ rfl
          refine xo_rn rfl (rn_move rfl) ?_
          refine xo_guard rfl rfl (fun hg32 => ?_) (fun hg32 => ?_) rfl
          · have hg32_p := hg32
            try rw [Bool.not_eq_true'] at hg32_p
            try rw [Bool.not_eq_false'] at hg32_p
            try rw [decide_eq_true_eq] at hg32_p
            try rw [decide_eq_false_iff_not] at hg32_p
            try rw [Int.not_lt] at hg32_p
            try rw [Int.not_le] at hg32_p
            refine xo_rn rfl (rn_move rfl) ?_
            refine xo_guard_yes rfl rfl hg32 ?_ rfl
            refine xo_rn rfl (rn_lss rfl rfl) ?_
            refine xo_guard_yes rfl rfl hg27 ?_ rfl
            refine xo_rn rfl (rn_pick_t rfl hg32 rfl) ?_
            refine xo_guard_yes rfl rfl hg27 ?_ rfl
            refine xo_rn rfl (rn_neqB Try.underlying4 rfl rfl) ?_
            refine xo_rn rfl (rn_pick_f rfl hg27 rfl) ?_
            refine xo_nil (kcut_normal ?_)
            refine ⟨(), rfl, ⟨rfl, rfl, rfl, rfl, rfl, ?_, trivial⟩, .cons_cons _ (.cons_cons _ (.refl _)), rfl, Mem.le.refl _⟩
            refine congrArg (fun b => some (Value.bool b)) ?_
            clear hat hl1 hl2
            simp_all
            try omega
          · replace hg32 := ne_t hg32
            have hg32_p := hg32
            try rw [Bool.not_eq_true'] at hg32_p
            try rw [Bool.not_eq_false'] at hg32_p
            try rw [decide_eq_true_eq] at hg32_p
            try rw [decide_eq_false_iff_not] at hg32_p
            try rw [Int.not_lt] at hg32_p
            try rw [Int.not_le] at hg32_p
            dsimp only [putU]
            refine xo_guard_no rfl rfl (by rw [hg32]; decide) rfl ?_
            refine xo_guard_yes rfl rfl hg27 ?_ rfl
            refine xo_rn rfl (rn_pick_f rfl hg32 rfl) ?_
            refine xo_guard_yes rfl rfl hg27 ?_ rfl
            refine xo_rn rfl (rn_neqB Try.underlying4 rfl rfl) ?_
            refine xo_rn rfl (rn_pick_f rfl hg27 rfl) ?_
            refine xo_nil (kcut_normal ?_)
            refine ⟨(), rfl, ⟨rfl, rfl, rfl, rfl, rfl, ?_, trivial⟩, .cons_cons _ (.cons_cons _ (.refl _)), rfl, Mem.le.refl _⟩
            refine congrArg (fun b => some (Value.bool b)) ?_
            clear hat hl1 hl2
            simp_all
            try omega
        · replace hg27 := ne_f hg27
          have hg27_p := hg27
          try rw [Bool.not_eq_true'] at hg27_p
          try rw [Bool.not_eq_false'] at hg27_p
          try rw [decide_eq_true_eq] at hg27_p
          try rw [decide_eq_false_iff_not] at hg27_p
          try rw [Int.not_lt] at hg27_p
          try rw [Int.not_le] at hg27_p
          dsimp only [putU]
          refine xo_guard_no rfl rfl (by rw [hg27]; decide) rfl ?_
          refine xo_guard_no rfl rfl (by rw [hg27]; decide) rfl ?_
          refine xo_guard_no rfl rfl (by rw [hg27]; decide) rfl ?_
          refine xo_guard_no rfl rfl (by rw [hg27]; decide) rfl ?_
          refine xo_guard_undef rfl rfl rfl ?_
          refine xo_guard_undef rfl rfl rfl ?_
          refine xo_guard_no rfl rfl (by rw [hg27]; decide) rfl ?_
          refine xo_guard_no rfl rfl (by rw [hg27]; decide) rfl ?_
          refine xo_rn rfl (rn_pick_t rfl hg27 rfl) ?_
          refine xo_nil (kcut_normal ?_)
          refine ⟨(), rfl, ⟨rfl, rfl, rfl, rfl, rfl, ?_, trivial⟩, .cons_cons _ (.cons_cons _ (.refl _)), rfl, Mem.le.refl _⟩
          refine congrArg (fun b => some (Value.bool b)) ?_
          clear hat hl1 hl2
          simp_all
          try omega
      · replace hg22 := ne_t hg22
        have hg22_p := hg22
        try rw [Bool.not_eq_true'] at hg22_p
        try rw [Bool.not_eq_false'] at hg22_p
        try rw [decide_eq_true_eq] at hg22_p
        try rw [decide_eq_false_iff_not] at hg22_p
        try rw [Int.not_lt] at hg22_p
        try rw [Int.not_le] at hg22_p
        dsimp only [putU]
        refine xo_guard_no rfl rfl (by rw [hg22]; decide) rfl ?_
        refine xo_rn rfl (rn_pick_f rfl hg22 rfl) ?_
        refine xo_rn rfl (rn_neqB Try.underlying4 rfl rfl) ?_
        refine xo_rn rfl (rn_move rfl) ?_
        refine xo_guard rfl rfl (fun hg27_1 => ?_) (fun hg27_1 => ?_) rfl
        · have hg27_1_p := hg27_1
          try rw [Bool.not_eq_true'] at hg27_1_p
          try rw [Bool.not_eq_false'] at hg27_1_p
          try rw [decide_eq_true_eq] at hg27_1_p
          try rw [decide_eq_false_iff_not] at hg27_1_p
          try rw [Int.not_lt] at hg27_1_p
          try rw [Int.not_le] at hg27_1_p
          refine xo_rl rfl (rl_own (q := 0) (v := .agg #[_, _, _]) tk24 rfl rfl rfl) ?_
          refine xo_guard_yes rfl rfl hg27_1 ?_ rfl
          refine xo_callS rfl cl13 (vs := [_, _]) rfl (Right_is (hl2 _) hr4) ?_
          refine xo_guard_yes rfl rfl hg27_1 ?_ rfl
          refine xo_rn rfl (rn_move rfl) ?_
          refine xo_guard_yes rfl rfl hg27_1 ?_ rfl
          refine xo_rn rfl (rn_geq rfl rfl) ?_
          refine xo_guard_yes rfl rfl hg27_1 ?_ rfl
          refine xo_rn rfl (rn_move rfl) ?_
          refine xo_guard rfl rfl (fun hg32_1 => ?_) (fun hg32_1 => ?_) rfl
          · have hg32_1_p := hg32_1
            try rw [Bool.not_eq_true'] at hg32_1_p
            try rw [Bool.not_eq_false'] at hg32_1_p
            try rw [decide_eq_true_eq] at hg32_1_p
            try rw [decide_eq_false_iff_not] at hg32_1_p
            try rw [Int.not_lt] at hg32_1_p
            try rw [Int.not_le] at hg32_1_p
            refine xo_rn rfl (rn_move rfl) ?_
            refine xo_guard_yes rfl rfl hg32_1 ?_ rfl
            refine xo_rn rfl (rn_lss rfl rfl) ?_
            refine xo_guard_yes rfl rfl hg27_1 ?_ rfl
            refine xo_rn rfl (rn_pick_t rfl hg32_1 rfl) ?_
            refine xo_guard_yes rfl rfl hg27_1 ?_ rfl
            refine xo_rn rfl (rn_neqB Try.underlying4 rfl rfl) ?_
            refine xo_rn rfl (rn_pick_f rfl hg27_1 rfl) ?_
            refine xo_nil (kcut_normal ?_)
            refine ⟨(), rfl, ⟨rfl, rfl, rfl, rfl, rfl, ?_, trivial⟩, .cons_cons _ (.cons_cons _ (.refl _)), rfl, Mem.le.refl _⟩
            refine congrArg (fun b => some (Value.bool b)) ?_
            clear hat hl1 hl2
            simp_all
            try omega
          · replace hg32_1 := ne_t hg32_1
            have hg32_1_p := hg32_1
            try rw [Bool.not_eq_true'] at hg32_1_p
            try rw [Bool.not_eq_false'] at hg32_1_p
            try rw [decide_eq_true_eq] at hg32_1_p
            try rw [decide_eq_false_iff_not] at hg32_1_p
            try rw [Int.not_lt] at hg32_1_p
            try rw [Int.not_le] at hg32_1_p
            dsimp only [putU]
            refine xo_guard_no rfl rfl (by rw [hg32_1]; decide) rfl ?_
            refine xo_guard_yes rfl rfl hg27_1 ?_ rfl
            refine xo_rn rfl (rn_pick_f rfl hg32_1 rfl) ?_
            refine xo_guard_yes rfl rfl hg27_1 ?_ rfl
            refine xo_rn rfl (rn_neqB Try.underlying4 rfl rfl) ?_
            refine xo_rn rfl (rn_pick_f rfl hg27_1 rfl) ?_
            refine xo_nil (kcut_normal ?_)
            refine ⟨(), rfl, ⟨rfl, rfl, rfl, rfl, rfl, ?_, trivial⟩, .cons_cons _ (.cons_cons _ (.refl _)), rfl, Mem.le.refl _⟩
            refine congrArg (fun b => some (Value.bool b)) ?_
            clear hat hl1 hl2
            simp_all
            try omega
        · replace hg27_1 := ne_f hg27_1
          have hg27_1_p := hg27_1
          try rw [Bool.not_eq_true'] at hg27_1_p
          try rw [Bool.not_eq_false'] at hg27_1_p
          try rw [decide_eq_true_eq] at hg27_1_p
          try rw [decide_eq_false_iff_not] at hg27_1_p
          try rw [Int.not_lt] at hg27_1_p
          try rw [Int.not_le] at hg27_1_p
          dsimp only [putU]
          refine xo_guard_no rfl rfl (by rw [hg27_1]; decide) rfl ?_
          refine xo_guard_no rfl rfl (by rw [hg27_1]; decide) rfl ?_
          refine xo_guard_no rfl rfl (by rw [hg27_1]; decide) rfl ?_
          refine xo_guard_no rfl rfl (by rw [hg27_1]; decide) rfl ?_
          refine xo_guard_undef rfl rfl rfl ?_
          refine xo_guard_undef rfl rfl rfl ?_
          refine xo_guard_no rfl rfl (by rw [hg27_1]; decide) rfl ?_
          refine xo_guard_no rfl rfl (by rw [hg27_1]; decide) rfl ?_
          refine xo_rn rfl (rn_pick_t rfl hg27_1 rfl) ?_
          refine xo_nil (kcut_normal ?_)
          refine ⟨(), rfl, ⟨rfl, rfl, rfl, rfl, rfl, ?_, trivial⟩, .cons_cons _ (.cons_cons _ (.refl _)), rfl, Mem.le.refl _⟩
          refine congrArg (fun b => some (Value.bool b)) ?_
          clear hat hl1 hl2
          simp_all
          try omega
    · rintro _ _ rfl hle
      refine kseq_normal ?_
      refine x_cond_false rfl ?_
      refine x_skip (kseq_normal ?_)
      refine x_seq ?_
      refine x_seq ?_
      refine x_cut (G := Unit) (fun _ => [(0, .int .i64 nn), (1, .int .i64 k), (2, .slice a vs.length cap), (7, .pointer (some ⟨b7, 0, none⟩)), (8, .pointer (some ⟨b8, 0, none⟩)), (53, .bool false)])
        (fun _ => [bx b8 24 [.int .i64 2, .int .i64 k, .slice none 0 0], bx b7 24 [.int .i64 1, .int .i64 nn, .slice none 0 0]]) (fun _ m' => m = m') ?_ ?_
      · refine x_region ?_
        refine xo_rl rfl (rl_own (q := 1) (v := .agg #[_, _, _]) tk24 rfl rfl rfl) ?_
        refine xo_callS rfl cl13 (vs := [_, _]) rfl (Right_is (hl1 _) hr0) ?_
        refine xo_rn rfl (rn_move rfl) ?_
        refine xo_guard rfl rfl (fun hg40 => ?_) (fun hg40 => ?_) rfl
        · have hg40_p := hg40
          try rw [Bool.not_eq_true'] at hg40_p
          try rw [Bool.not_eq_false'] at hg40_p
          try rw [decide_eq_true_eq] at hg40_p
          try rw [decide_eq_false_iff_not] at hg40_p
          try rw [Int.not_lt] at hg40_p
          try rw [Int.not_le] at hg40_p
          refine xo_rl rfl (rl_own (q := 1) (v := .agg #[_, _, _]) tk24 rfl rfl rfl) ?_
          refine xo_guard_yes rfl rfl hg40 ?_ rfl
          refine xo_rn rfl (rn_move rfl) ?_
          refine xo_guard_yes rfl rfl hg40 ?_ rfl
          refine xo_callS rfl cl15 (vs := [_, _]) rfl (Value_spec _ _ _ _ _ (hl1 _) hs0) ?_
          refine xo_guard_yes rfl rfl hg40 ?_ rfl
          refine xo_rn rfl (rn_move rfl) ?_
          refine xo_guard_yes rfl rfl hg40 ?_ rfl
          refine xo_rn rfl (rn_neq rfl rfl) ?_
          refine xo_guard_yes rfl rfl hg40 ?_ rfl
          refine xo_rn rfl (rn_move rfl) ?_
          refine xo_guard rfl rfl (fun hg46 => ?_) (fun hg46 => ?_) rfl
          · have hg46_p := hg46
            try rw [Bool.not_eq_true'] at hg46_p
            try rw [Bool.not_eq_false'] at hg46_p
            try rw [decide_eq_true_eq] at hg46_p
            try rw [decide_eq_false_iff_not] at hg46_p
            try rw [Int.not_lt] at hg46_p
            try rw [Int.not_le] at hg46_p
            refine xo_rl rfl (rl_own (q := 1) (v := .agg #[_, _, _]) tk24 rfl rfl rfl) ?_
            refine xo_guard_yes rfl rfl hg46 ?_ rfl
            refine xo_callS rfl cl19 (vs := [_]) rfl (Zero_spec _ _ _ (hl1 _)) ?_
            refine xo_guard_yes rfl rfl hg46 ?_ rfl
            refine xo_rn rfl (rn_move rfl) ?_
            refine xo_guard_yes rfl rfl hg46 ?_ rfl
            refine xo_rn rfl (rn_eql rfl rfl) ?_
            refine xo_guard_yes rfl rfl hg46 ?_ rfl
            refine xo_rn rfl (rn_neqB Try.underlying4 rfl rfl) ?_
            refine xo_guard_yes rfl rfl hg40 ?_ rfl
            refine xo_rn rfl (rn_pick_f rfl hg46 rfl) ?_
            refine xo_rn rfl (rn_pick_t rfl hg40 rfl) ?_
            refine xo_nil (kcut_normal ?_)
            refine ⟨(), rfl, ⟨rfl, rfl, rfl, rfl, rfl, ?_, trivial⟩, .cons_cons _ (.cons_cons _ (.refl _)), rfl, Mem.le.refl _⟩
            refine congrArg (fun b => some (Value.bool b)) ?_
            clear hat hl1 hl2
            simp_all
            try omega
          · replace hg46 := ne_f hg46
            have hg46_p := hg46
            try rw [Bool.not_eq_true'] at hg46_p
            try rw [Bool.not_eq_false'] at hg46_p
            try rw [decide_eq_true_eq] at hg46_p
            try rw [decide_eq_false_iff_not] at hg46_p
            try rw [Int.not_lt] at hg46_p
            try rw [Int.not_le] at hg46_p
            dsimp only [putU]
            refine xo_guard_no rfl rfl (by rw [hg46]; decide) rfl ?_
            refine xo_guard_no rfl rfl (by rw [hg46]; decide) rfl ?_
            refine xo_guard_no rfl rfl (by rw [hg46]; decide) rfl ?_
            refine xo_guard_no rfl rfl (by rw [hg46]; decide) rfl ?_
            refine xo_guard_yes rfl rfl hg40 ?_ rfl
            refine xo_rn rfl (rn_pick_t rfl hg46 rfl) ?_
            refine xo_rn rfl (rn_pick_t rfl hg40 rfl) ?_
            refine xo_nil (kcut_normal ?_)
            refine ⟨(), rfl, ⟨rfl, rfl, rfl, rfl, rfl, ?_, trivial⟩, .cons_cons _ (.cons_cons _ (.refl _)), rfl, Mem.le.refl _⟩
            refine congrArg (fun b => some (Value.bool b)) ?_
            clear hat hl1 hl2
            simp_all
            try omega
        · replace hg40 := ne_t hg40
          have hg40_p := hg40
          try rw [Bool.not_eq_true'] at hg40_p
          try rw [Bool.not_eq_false'] at hg40_p
          try rw [decide_eq_true_eq] at hg40_p
          try rw [decide_eq_false_iff_not] at hg40_p
          try rw [Int.not_lt] at hg40_p
          try rw [Int.not_le] at hg40_p
          dsimp only [putU]
          refine xo_guard_no rfl rfl (by rw [hg40]; decide) rfl ?_
          refine xo_guard_no rfl rfl (by rw [hg40]; decide) rfl ?_
          refine xo_guard_no rfl rfl (by rw [hg40]; decide) rfl ?_
          refine xo_guard_no rfl rfl (by rw [hg40]; decide) rfl ?_
          refine xo_guard_no rfl rfl (by rw [hg40]; decide) rfl ?_
          refine xo_guard_undef rfl rfl rfl ?_
          refine xo_guard_undef rfl rfl rfl ?_
          refine xo_guard_undef rfl rfl rfl ?_
          refine xo_guard_undef rfl rfl rfl ?_
          refine xo_guard_undef rfl rfl rfl ?_
          refine xo_guard_no rfl rfl (by rw [hg40]; decide) rfl ?_
          refine xo_rn rfl (rn_pick_f rfl hg40 rfl) ?_
          refine xo_nil (kcut_normal ?_)
          refine ⟨(), rfl, ⟨rfl, rfl, rfl, rfl, rfl, ?_, trivial⟩, .cons_cons _ (.cons_cons _ (.refl _)), rfl, Mem.le.refl _⟩
          refine congrArg (fun b => some (Value.bool b)) ?_
          clear hat hl1 hl2
          simp_all
          try omega
      · rintro _ _ rfl hle
        refine kseq_normal ?_
        refine x_cond_false rfl ?_
        refine x_skip (kseq_normal ?_)
        refine x_seq ?_
        refine x_seq ?_
        refine x_region ?_
        refine xo_rl rfl (rl_own (q := 0) (v := .agg #[_, _, _]) tk24 rfl rfl rfl) ?_
        refine xo_callS rfl cl13 (vs := [_, _]) rfl (Right_is (hl2 _) hr4) ?_
        refine xo_rn rfl (rn_not rfl) ?_
        refine xo_rn rfl (rn_move rfl) ?_
        refine xo_guard rfl rfl (fun hg57 => ?_) (fun hg57 => ?_) rfl
        · have hg57_p := hg57
          try rw [Bool.not_eq_true'] at hg57_p
          try rw [Bool.not_eq_false'] at hg57_p
          try rw [decide_eq_true_eq] at hg57_p
          try rw [decide_eq_false_iff_not] at hg57_p
          try rw [Int.not_lt] at hg57_p
          try rw [Int.not_le] at hg57_p
          refine xo_rn rfl (rn_move rfl) ?_
          refine xo_guard_yes rfl rfl hg57 ?_ rfl
          refine xo_rn rfl (rn_move rfl) ?_
          refine xo_guard_yes rfl rfl hg57 ?_ rfl
          refine xo_rn rfl (rn_len_slice tsl25 rfl) ?_
          refine xo_guard_yes rfl rfl hg57 ?_ rfl
          refine xo_rn rfl (rn_geq rfl rfl) ?_
          refine xo_rn rfl (rn_pick_f rfl hg57 rfl) ?_
          refine xo_nil (kseq_normal ?_)
          refine x_cond rfl (fun hc62 => ?_) (fun hc62 => ?_)
          · have hc62b := hc62
            try rw [Bool.not_eq_true'] at hc62
            try rw [Bool.not_eq_false'] at hc62
            try rw [decide_eq_true_eq] at hc62
            try rw [decide_eq_false_iff_not] at hc62
            try rw [Int.not_lt] at hc62
            try rw [Int.not_le] at hc62
            refine x_seq ?_
            refine x_region ?_
            refine xo_rl rfl (rl_own (q := 0) (v := .agg #[_, _, _]) tk24 rfl rfl rfl) ?_
            refine xo_rn rfl (rn_move rfl) ?_
            refine xo_callS rfl cl15 (vs := [_, _]) rfl (Value_spec _ _ _ _ _ (hl2 _) hs0) ?_
            refine xo_rn rfl (rn_eql rfl rfl) ?_
            refine xo_rn rfl (rn_assign rfl) ?_
            refine xo_nil (kseq_normal ?_)
            refine x_ret (kseq_ret ?_)
            refine ⟨rfl, [_], .cons (.tmp rfl) (.nil), fin_drop (μ' := []) (List.nil_sublist _) (fin_done (ret_tup1 ?_))⟩
            rw [hv2, if_pos hg57_p]
            have e : clampF vs k = 0 := by
              unfold clampF
              rw [List.getElem?_eq_none (by omega)]
            rw [e]
            rfl
          · have hc62b := hc62
            try rw [Bool.not_eq_true'] at hc62
            try rw [Bool.not_eq_false'] at hc62
            try rw [decide_eq_true_eq] at hc62
            try rw [decide_eq_false_iff_not] at hc62
            try rw [Int.not_lt] at hc62
            try rw [Int.not_le] at hc62
            refine x_skip (kseq_normal ?_)
            refine x_seq ?_
            refine x_env (ρ' := [(1, _), (2, _), (8, _)]) ⟨rfl, rfl, rfl, trivial⟩ ?_
            refine x_region_draw (by kernel_rfl) ?_
            refine xa_l (by kernel_rfl) 0 67 [8] rfl rfl rfl rfl rfl rfl rfl (pvl_none (rl_own (q := 0) (v := .agg #[_, _, _]) tk24 rfl rfl rfl)) ?_
            refine xa_p (by kernel_rfl) 1 68 [2] rfl rfl rfl rfl rfl rfl rfl (pv_none (rn_move rfl)) ?_
            refine xa_p (by kernel_rfl) 3 70 [2] rfl rfl rfl rfl rfl rfl rfl (pv_none (rn_move rfl)) ?_
            refine xa_p (by kernel_rfl) 4 71 [1] rfl rfl rfl rfl rfl rfl rfl (pv_none (rn_move rfl)) ?_
            obtain ⟨b, off, rfl, hrd⟩ : ∃ b off, a = some ⟨b, off, none⟩ ∧ Rd _ b (off + k.toNat * 1) (.int .i64 (vs.getD k.toNat 0)) := by
              obtain ⟨b, off, h1, h2⟩ := hat k.toNat (vs.getD k.toNat 0) (by rw [List.getD_eq_getElem?_getD, List.getElem?_eq_getElem (by omega)]; rfl)
              exact ⟨b, off, h1, h2⟩
            refine xa_p (by kernel_rfl) 5 72 [70, 71] rfl rfl rfl rfl rfl rfl rfl (pv_none (rn_indexAddr (q := k.toNat) tsl25 rfl rfl (by omega) (by omega))) ?_
            refine xa_l (by kernel_rfl) 6 73 [72] rfl rfl rfl rfl rfl rfl rfl (pvl_none (rl_mem1 tk3 rfl (hrd))) ?_
            refine xa_p (by kernel_rfl) 7 74 [73] rfl rfl rfl rfl rfl rfl rfl (pv_none (rn_max rfl rfl)) ?_
            refine xa_p (by kernel_rfl) 8 75 [74] rfl rfl rfl rfl rfl rfl rfl (pv_none (rn_min rfl rfl)) ?_
            refine xa_effect (by kernel_rfl) 2 rfl rfl (by kernel_rfl) [0, 1] (by kernel_rfl) rfl (pp' := [_, _, _, _, _]) (pl' := [_]) (hid := [75, 74, 72, 71, 70, 73]) rfl rfl rfl ?_
            refine xo_callS rfl cl15 (vs := [_, _]) rfl (Value_spec _ _ _ _ _ (hl2 _) hs0) ?_
            refine xo_nil ⟨⟨_, rfl⟩, List.forall_mem_cons.2 ⟨pvl_none (rl_mem1 tk3 rfl (hrd)), fun _ hp => (by cases hp)⟩, ?_⟩
            refine xa_env (ρ' := [(75, _), (74, _), (72, _), (71, _), (70, _), (73, _), (69, _), (68, _), (67, _), (1, _), (2, _), (8, _)]) rfl ?_
            refine xa_p (by kernel_rfl) 9 76 [69, 75] rfl rfl rfl rfl rfl rfl rfl (pv_none (rn_eql rfl rfl)) ?_
            refine xa_p (by kernel_rfl) 10 6 [76] rfl rfl rfl rfl rfl rfl rfl (pv_none (rn_assign rfl)) ?_
            refine xa_end (by kernel_rfl) rfl (kseq_normal ?_)
            refine x_ret ?_
            refine ⟨rfl, [_], .cons (.tmp rfl) (.nil), fin_drop (μ' := []) (List.nil_sublist _) (fin_done (ret_tup1 ?_))⟩
            rw [hv2, if_pos hg57_p]
            have e : clampF vs k = min (max (vs.getD k.toNat 0) 0) 1048576 := by
              unfold clampF
              rw [List.getD_eq_getElem?_getD, List.getElem?_eq_getElem (by omega)]
              rfl
            rw [e]
            simp
        · replace hg57 := ne_f hg57
          have hg57_p := hg57
          try rw [Bool.not_eq_true'] at hg57_p
          try rw [Bool.not_eq_false'] at hg57_p
          try rw [decide_eq_true_eq] at hg57_p
          try rw [decide_eq_false_iff_not] at hg57_p
          try rw [Int.not_lt] at hg57_p
          try rw [Int.not_le] at hg57_p
          dsimp only [putU]
          refine xo_guard_no rfl rfl (by rw [hg57]; decide) rfl ?_
          refine xo_guard_no rfl rfl (by rw [hg57]; decide) rfl ?_
          refine xo_guard_no rfl rfl (by rw [hg57]; decide) rfl ?_
          refine xo_rn rfl (rn_pick_t rfl hg57 rfl) ?_
          refine xo_nil (kseq_normal ?_)
          refine x_cond_true rfl ?_
          refine x_seq ?_
          refine x_region ?_
          refine xo_rl rfl (rl_own (q := 0) (v := .agg #[_, _, _]) tk24 rfl rfl rfl) ?_
          refine xo_rn rfl (rn_move rfl) ?_
          refine xo_callS rfl cl15 (vs := [_, _]) rfl (Value_spec _ _ _ _ _ (hl2 _) hs0) ?_
          refine xo_rn rfl (rn_eql rfl rfl) ?_
          refine xo_rn rfl (rn_assign rfl) ?_
          refine xo_nil (kseq_normal ?_)
          refine x_ret (kseq_ret ?_)
          refine ⟨rfl, [_], .cons (.tmp rfl) (.nil), fin_drop (μ' := []) (List.nil_sublist _) (fin_done (ret_tup1 ?_))⟩
          rw [hv2, if_neg hg57_p]
          rfl

end Go.Proofs.Ytagilgmgacpffaa

/-
  Contracts of the reference of layer 3: being at most, and levels in place of parameters.
-/
import Derived.Test.YtagilgmgacpffaaLvs
namespace Go.Proofs.Ytagilgmgacpffaa
open Go Go.Gw

theorem rLeq_spec (x y : Lv) (m : Mem) (cs ds : List Value) (hx : LvV m x cs) (hy : LvV m y ds) : Scal Try.prog 11 #[.agg cs.toArray, .agg ds.toArray] m (.bool (leqR x y)) := by
  refine scal_of ?_
  have hx0 := hx
  have hy0 := hy
  obtain ⟨k, nn, ls, a, cap, rfl, rfl, hk, hn, hlen, hat⟩ := hx.open
  obtain ⟨k2, nn2, ls2, a2, cap2, rfl, rfl, hk2, hn2, hlen2, hat2⟩ := hy.open
  refine spec_body (vs := [_, _]) Try.func11 rfl Try.ntmps11 rfl (fun E => ?_)
  refine x_seq ?_
  refine x_region ?_
  refine xo_box rfl rfl (cs := [_, _, _]) rfl (fun b2 => ?_)
  refine xo_box rfl rfl (cs := [_, _, _]) rfl (fun b3 => ?_)
  refine xo_rn rfl (rn_assign rfl) ?_
  refine xo_nil (kseq_normal ?_)
  refine x_seq ?_
  refine x_seq ?_
  refine x_region ?_
  refine xo_rl rfl (rl_own (q := 1) (v := .agg #[_, _, _]) tk24 rfl rfl rfl) ?_
  refine xo_callS rfl cl14 (vs := [_, _]) rfl (rRight_spec _ _ _ _ hx0) ?_
  refine xo_rn rfl (rn_not rfl) ?_
  refine xo_rn rfl (rn_move rfl) ?_
  refine xo_guard rfl rfl (fun hg14 => ?_) (fun hg14 => ?_) rfl
  · have hg14_p := hg14
    try rw [Bool.not_eq_true'] at hg14_p
    try rw [Bool.not_eq_false'] at hg14_p
    try rw [decide_eq_true_eq] at hg14_p
    try rw [decide_eq_false_iff_not] at hg14_p
    try rw [Int.not_lt] at hg14_p
    try rw [Int.not_le] at hg14_p
    refine xo_rl rfl (rl_own (q := 0) (v := .agg #[_, _, _]) tk24 rfl rfl rfl) ?_
    refine xo_guard_yes rfl rfl hg14 ?_ rfl
    refine xo_callS rfl cl14 (vs := [_, _]) rfl (rRight_spec _ _ _ _ hy0) ?_
    refine xo_guard_yes rfl rfl hg14 ?_ rfl
    refine xo_rn rfl (rn_not rfl) ?_
    refine xo_rn rfl (rn_pick_f rfl hg14 rfl) ?_
    refine xo_nil (kseq_normal ?_)
    refine x_cond rfl (fun hc18 => ?_) (fun hc18 => ?_)
    · have hc18b := hc18
      try rw [Bool.not_eq_true'] at hc18
      try rw [Bool.not_eq_false'] at hc18
      try rw [decide_eq_true_eq] at hc18
      try rw [decide_eq_false_iff_not] at hc18
      try rw [Int.not_lt] at hc18
      try rw [Int.not_le] at hc18
      refine x_seq ?_
      refine x_region ?_
      refine xo_rn rfl (rn_assign rfl) ?_
      refine xo_nil (kseq_normal ?_)
      refine x_ret (kseq_ret ?_)
      refine ⟨rfl, [_], .cons (.tmp rfl) (.nil), fin_drop (μ' := []) (List.nil_sublist _) (fin_done (ret_tup1 ?_))⟩
      simp [leqR, hc18]
    · have hc18b := hc18
      try rw [Bool.not_eq_true'] at hc18
      try rw [Bool.not_eq_false'] at hc18
      try rw [decide_eq_true_eq] at hc18
      try rw [decide_eq_false_iff_not] at hc18
      try rw [Int.not_lt] at hc18
      try rw [Int.not_le] at hc18
      refine x_skip (kseq_normal ?_)
      refine x_seq ?_
      refine x_region ?_
      refine xo_call0 rfl cl30 (vs := []) rfl (steps_spec _) (fun v19 m19 _ hle19 hq19 => ?_)
      obtain ⟨sa, scap, rfl, hsc, -, hsat⟩ := hq19
      refine xo_rn rfl (rn_assign rfl) ?_
      refine xo_nil (kseq_normal ?_)
      refine x_seq ?_
      refine x_seq ?_
      refine x_region ?_
      refine xo_rn rfl (rn_assign rfl) ?_
      refine xo_nil (kseq_normal ?_)
      refine x_block ?_
      refine x_loop (G := Nat) (fun g => [(6, .int .i64 (g : Int)), (5, .slice sa 3 scap), (3, .pointer (some ⟨b3, 0, none⟩)), (2, .pointer (some ⟨b2, 0, none⟩))])
        (fun g => [bx b3 24 [.int .i64 k2, .int .i64 nn2, .slice a2 ls2.length cap2], bx b2 24 [.int .i64 k, .int .i64 nn, .slice a ls.length cap]])
        (fun g m' => g ≤ 3 ∧ all3 g (fun i => all3 3 fun j => all3 3 fun k' => all3 3 fun q => leAt (.mk k nn ls) (.mk k2 nn2 ls2) i j k' q) = true) (fun g => 3 - g) 0
        ⟨by omega, rfl⟩ ⟨rfl, rfl, rfl, rfl, trivial⟩ (.cons_cons _ (.cons_cons _ (.refl _))) ?_
      rintro i m1 ⟨hi, hai⟩ hle1
      refine x_seq ?_
      refine x_seq ?_
      refine x_region ?_
      refine xo_rn rfl (rn_move rfl) ?_
      refine xo_rn rfl (rn_move rfl) ?_
      refine xo_rn rfl (rn_len_slice tsl25 rfl) ?_
      refine xo_rn rfl (rn_lss rfl rfl) ?_
      refine xo_nil (kseq_normal ?_)
      refine x_cond rfl (fun hc23 => ?_) (fun hc23 => ?_)
      · have hc23b := hc23
        try rw [Bool.not_eq_true'] at hc23
        try rw [Bool.not_eq_false'] at hc23
        try rw [decide_eq_true_eq] at hc23
        try rw [decide_eq_false_iff_not] at hc23
        try rw [Int.not_lt] at hc23
        try rw [Int.not_le] at hc23
        refine x_skip (kseq_normal ?_)
        refine x_seq ?_
        refine x_block ?_
        refine x_seq ?_
        refine x_region ?_
        refine xo_rn rfl (rn_assign rfl) ?_
        refine xo_nil (kseq_normal ?_)
        refine x_block ?_
        refine x_loop (G := Nat) (fun g => [(7, .int .i64 (g : Int)), (6, .int .i64 (i : Int)), (5, .slice sa 3 scap), (3, .pointer (some ⟨b3, 0, none⟩)), (2, .pointer (some ⟨b2, 0, none⟩))])
          (fun g => [bx b3 24 [.int .i64 k2, .int .i64 nn2, .slice a2 ls2.length cap2], bx b2 24 [.int .i64 k, .int .i64 nn, .slice a ls.length cap]])
          (fun g m' => g ≤ 3 ∧ all3 g (fun j => all3 3 fun k' => all3 3 fun q => leAt (.mk k nn ls) (.mk k2 nn2 ls2) i j k' q) = true) (fun g => 3 - g) 0
          ⟨by omega, rfl⟩ ⟨rfl, rfl, rfl, rfl, rfl, trivial⟩ (.cons_cons _ (.cons_cons _ (.refl _))) ?_
        rintro j m2 ⟨hj, haj⟩ hle2
        refine x_seq ?_
        refine x_seq ?_
        refine x_region ?_
        refine xo_rn rfl (rn_move rfl) ?_
        refine xo_rn rfl (rn_move rfl) ?_
        refine xo_rn rfl (rn_len_slice tsl25 rfl) ?_
        refine xo_rn rfl (rn_lss rfl rfl) ?_
        refine xo_nil (kseq_normal ?_)
        refine x_cond rfl (fun hc29 => ?_) (fun hc29 => ?_)
        · have hc29b := hc29
          try rw [Bool.not_eq_true'] at hc29
          try rw [Bool.not_eq_false'] at hc29
          try rw [decide_eq_true_eq] at hc29
          try rw [decide_eq_false_iff_not] at hc29
          try rw [Int.not_lt] at hc29
          try rw [Int.not_le] at hc29
          refine x_skip (kseq_normal ?_)
          refine x_seq ?_
          refine x_block ?_
          refine x_seq ?_
          refine x_region ?_
          refine xo_rn rfl (rn_assign rfl) ?_
          refine xo_nil (kseq_normal ?_)
          refine x_block ?_
          refine x_loop (G := Nat) (fun g => [(8, .int .i64 (g : Int)), (7, .int .i64 (j : Int)), (6, .int .i64 (i : Int)), (5, .slice sa 3 scap), (3, .pointer (some ⟨b3, 0, none⟩)), (2, .pointer (some ⟨b2, 0, none⟩))])
            (fun g => [bx b3 24 [.int .i64 k2, .int .i64 nn2, .slice a2 ls2.length cap2], bx b2 24 [.int .i64 k, .int .i64 nn, .slice a ls.length cap]])
            (fun g m' => g ≤ 3 ∧ all3 g (fun k' => all3 3 fun q => leAt (.mk k nn ls) (.mk k2 nn2 ls2) i j k' q) = true) (fun g => 3 - g) 0
            ⟨by omega, rfl⟩ ⟨rfl, rfl, rfl, rfl, rfl, rfl, trivial⟩ (.cons_cons _ (.cons_cons _ (.refl _))) ?_
          rintro k' m3 ⟨hk', hak⟩ hle3
          refine x_seq ?_
          refine x_seq ?_
          refine x_region ?_
          refine xo_rn rfl (rn_move rfl) ?_
          refine xo_rn rfl (rn_move rfl) ?_
          refine xo_rn rfl (rn_len_slice tsl25 rfl) ?_
          refine xo_rn rfl (rn_lss rfl rfl) ?_
          refine xo_nil (kseq_normal ?_)
          refine x_cond rfl (fun hc35 => ?_) (fun hc35 => ?_)
          · have hc35b := hc35
            try rw [Bool.not_eq_true'] at hc35
            try rw [Bool.not_eq_false'] at hc35
            try rw [decide_eq_true_eq] at hc35
            try rw [decide_eq_false_iff_not] at hc35
            try rw [Int.not_lt] at hc35
            try rw [Int.not_le] at hc35
            refine x_skip (kseq_normal ?_)
            refine x_seq ?_
            refine x_block ?_
            refine x_seq ?_
            refine x_region ?_
            refine xo_rn rfl (rn_assign rfl) ?_
            refine xo_nil (kseq_normal ?_)
            refine x_block ?_
            refine x_loop (G := Nat) (fun g => [(9, .int .i64 (g : Int)), (8, .int .i64 (k' : Int)), (7, .int .i64 (j : Int)), (6, .int .i64 (i : Int)), (5, .slice sa 3 scap), (3, .pointer (some ⟨b3, 0, none⟩)), (2, .pointer (some ⟨b2, 0, none⟩))])
              (fun g => [bx b3 24 [.int .i64 k2, .int .i64 nn2, .slice a2 ls2.length cap2], bx b2 24 [.int .i64 k, .int .i64 nn, .slice a ls.length cap]])
              (fun g m' => g ≤ 3 ∧ all3 g (fun q => leAt (.mk k nn ls) (.mk k2 nn2 ls2) i j k' q) = true) (fun g => 3 - g) 0
              ⟨by omega, rfl⟩ ⟨rfl, rfl, rfl, rfl, rfl, rfl, rfl, trivial⟩ (.cons_cons _ (.cons_cons _ (.refl _))) ?_
            rintro q m4 ⟨hq, haq⟩ hle4
            refine x_seq ?_
            refine x_seq ?_
            refine x_region ?_
            refine xo_rn rfl (rn_move rfl) ?_
            refine xo_rn rfl (rn_move rfl) ?_
            refine xo_rn rfl (rn_len_slice tsl25 rfl) ?_
            refine xo_rn rfl (rn_lss rfl rfl) ?_
            refine xo_nil (kseq_normal ?_)
            refine x_cond rfl (fun hc41 => ?_) (fun hc41 => ?_)
            · have hc41b := hc41
              try rw [Bool.not_eq_true'] at hc41
              try rw [Bool.not_eq_false'] at hc41
              try rw [decide_eq_true_eq] at hc41
              try rw [decide_eq_false_iff_not] at hc41
              try rw [Int.not_lt] at hc41
              try rw [Int.not_le] at hc41
              refine x_skip (kseq_normal ?_)
              refine x_seq ?_
              refine x_block ?_
              refine x_seq ?_
              refine x_env (ρ' := [(2, _), (3, _), (5, _), (6, _), (7, _), (8, _), (9, _), (38, _), (39, _), (40, _), (41, _)]) ⟨rfl, rfl, rfl, rfl, rfl, rfl, rfl, rfl, rfl, rfl, rfl, trivial⟩ ?_
              refine x_region_draw (by kernel_rfl) ?_
              refine xa_p (by kernel_rfl) 0 44 [5] rfl rfl rfl rfl rfl rfl rfl (pv_none (rn_move rfl)) ?_
              refine xa_p (by kernel_rfl) 1 45 [6] rfl rfl rfl rfl rfl rfl rfl (pv_none (rn_move rfl)) ?_
              have hlem := hle1.trans (hle2.trans (hle3.trans hle4))
              obtain ⟨sb, soff, rfl, hri⟩ := hsat i _ (pts_get (by omega))
              obtain ⟨_, _, e1, hrj⟩ := hsat j _ (pts_get (by omega))
              cases e1
              obtain ⟨_, _, e1, hrk⟩ := hsat k' _ (pts_get (by omega))
              cases e1
              obtain ⟨_, _, e1, hrq⟩ := hsat q _ (pts_get (by omega))
              cases e1
              refine xa_p (by kernel_rfl) 2 46 [44, 45] rfl rfl rfl rfl rfl rfl rfl (pv_none (rn_indexAddr (q := i) tsl25 rfl rfl rfl (by omega))) ?_
              refine xa_l (by kernel_rfl) 3 47 [46] rfl rfl rfl rfl rfl rfl rfl (pvl_none (rl_mem1 tk3 rfl (hri.mono hlem))) ?_
              refine xa_p (by kernel_rfl) 4 48 [5] rfl rfl rfl rfl rfl rfl rfl (pv_none (rn_move rfl)) ?_
              refine xa_p (by kernel_rfl) 5 49 [7] rfl rfl rfl rfl rfl rfl rfl (pv_none (rn_move rfl)) ?_
              refine xa_p (by kernel_rfl) 6 50 [48, 49] rfl rfl rfl rfl rfl rfl rfl (pv_none (rn_indexAddr (q := j) tsl25 rfl rfl rfl (by omega))) ?_
              refine xa_l (by kernel_rfl) 7 51 [50] rfl rfl rfl rfl rfl rfl rfl (pvl_none (rl_mem1 tk3 rfl (hrj.mono hlem))) ?_
              refine xa_p (by kernel_rfl) 8 52 [5] rfl rfl rfl rfl rfl rfl rfl (pv_none (rn_move rfl)) ?_
              refine xa_p (by kernel_rfl) 9 53 [8] rfl rfl rfl rfl rfl rfl rfl (pv_none (rn_move rfl)) ?_
              refine xa_p (by kernel_rfl) 10 54 [52, 53] rfl rfl rfl rfl rfl rfl rfl (pv_none (rn_indexAddr (q := k') tsl25 rfl rfl rfl (by omega))) ?_
              refine xa_l (by kernel_rfl) 11 55 [54] rfl rfl rfl rfl rfl rfl rfl (pvl_none (rl_mem1 tk3 rfl (hrk.mono hlem))) ?_
              refine xa_p (by kernel_rfl) 12 56 [5] rfl rfl rfl rfl rfl rfl rfl (pv_none (rn_move rfl)) ?_
              refine xa_p (by kernel_rfl) 13 57 [9] rfl rfl rfl rfl rfl rfl rfl (pv_none (rn_move rfl)) ?_
              refine xa_p (by kernel_rfl) 14 58 [56, 57] rfl rfl rfl rfl rfl rfl rfl (pv_none (rn_indexAddr (q := q) tsl25 rfl rfl rfl (by omega))) ?_
              refine xa_l (by kernel_rfl) 15 59 [58] rfl rfl rfl rfl rfl rfl rfl (pvl_none (rl_mem1 tk3 rfl (hrq.mono hlem))) ?_
              refine xa_effect (by kernel_rfl) 16 rfl rfl (by kernel_rfl) [3, 7, 11, 15, 2, 6, 10, 14, 0, 1, 4, 5, 8, 9, 12, 13] (by kernel_rfl) rfl (pp' := []) (pl' := []) (hid := []) rfl rfl rfl ?_
              refine xo_buildSlice (pv := [(_, _), (_, _), (_, _), (_, _)]) (zs := [_, _, _, _]) (cs := [_, _, _, _]) rfl tsl25 tz3 rfl rfl rfl rfl (fun b60 => ?_)
              refine xo_nil ⟨⟨_, rfl⟩, fun _ hp => (by cases hp), ?_⟩
              refine xa_env (ρ' := [(60, _), (59, _), (58, _), (57, _), (56, _), (55, _), (54, _), (53, _), (52, _), (51, _), (50, _), (49, _), (48, _), (47, _), (46, _), (45, _), (44, _), (2, _), (3, _), (5, _), (6, _), (7, _), (8, _), (9, _), (38, _), (39, _), (40, _), (41, _)]) rfl ?_
              refine xa_p (by kernel_rfl) 17 10 [60] rfl rfl rfl rfl rfl rfl rfl (pv_none (rn_assign rfl)) ?_
              refine xa_end (by kernel_rfl) rfl (kseq_normal ?_)
              refine x_seq ?_
              refine x_env (ρ' := [(2, _), (3, _), (5, _), (6, _), (7, _), (8, _), (9, _), (10, _), (38, _), (39, _), (40, _), (41, _), (44, _), (45, _), (46, _), (47, _), (48, _), (49, _), (50, _), (51, _), (52, _), (53, _), (54, _), (55, _), (56, _), (57, _), (58, _), (59, _), (60, _)]) ⟨rfl, rfl, rfl, rfl, rfl, rfl, rfl, rfl, rfl, rfl, rfl, rfl, rfl, rfl, rfl, rfl, rfl, rfl, rfl, rfl, rfl, rfl, rfl, rfl, rfl, rfl, rfl, rfl, rfl, trivial⟩ ?_
              refine x_region_draw (by kernel_rfl) ?_
              refine xa_l (by kernel_rfl) 0 61 [2] rfl rfl rfl rfl rfl rfl rfl (pvl_none (rl_own (q := 2) (v := .agg #[_, _, _]) tk24 rfl rfl rfl)) ?_
              refine xa_p (by kernel_rfl) 1 62 [10] rfl rfl rfl rfl rfl rfl rfl (pv_none (rn_move rfl)) ?_
              refine xa_l (by kernel_rfl) 3 64 [3] rfl rfl rfl rfl rfl rfl rfl (pvl_none (rl_own (q := 1) (v := .agg #[_, _, _]) tk24 rfl rfl rfl)) ?_
              refine xa_p (by kernel_rfl) 4 65 [10] rfl rfl rfl rfl rfl rfl rfl (pv_none (rn_move rfl)) ?_
              refine xa_effect (by kernel_rfl) 2 rfl rfl (by kernel_rfl) [0, 1] (by kernel_rfl) rfl (pp' := [_]) (pl' := [_]) (hid := [65, 64]) rfl rfl rfl ?_
              refine xo_freezeBlk (q := 0) rfl (fun m_b60 hle_b60 hm_b60 => ?_)
              dsimp only [List.eraseIdx]
              have hleb := (hle19.trans hlem).trans hle_b60
              have hvs : IntsV m_b60 (pt i j k' q) (.slice (some ⟨b60, 0, none⟩) 4 4) := IntsV.of_blk (vs := pt i j k' q) hm_b60 (by simp [pt])
              refine xo_callS rfl cl31 (vs := [_, _]) rfl (rvalue_spec _ (pt i j k' q) _ _ _ (hx0.mono hleb) (right_all hg14_p) (right_size hg14_p) hvs) ?_
              refine xo_nil ⟨⟨_, rfl⟩, List.forall_mem_cons.2 ⟨pvl_none (rl_own (q := 0) (v := .agg #[_, _, _]) tk24 rfl rfl rfl), fun _ hp => (by cases hp)⟩, ?_⟩
              refine xa_env (ρ' := [(65, _), (64, _), (63, _), (62, _), (61, _), (2, _), (3, _), (5, _), (6, _), (7, _), (8, _), (9, _), (10, _), (38, _), (39, _), (40, _), (41, _), (44, _), (45, _), (46, _), (47, _), (48, _), (49, _), (50, _), (51, _), (52, _), (53, _), (54, _), (55, _), (56, _), (57, _), (58, _), (59, _), (60, _)]) rfl ?_
              refine xa_effect (by kernel_rfl) 5 rfl rfl (by kernel_rfl) [3, 4, 2, 0, 1] (by kernel_rfl) rfl (pp' := []) (pl' := []) (hid := []) rfl rfl rfl ?_
              refine xo_callS rfl cl31 (vs := [_, _]) rfl (rvalue_spec _ (pt i j k' q) _ _ _ (hy0.mono hleb) (right_all hc18) (right_size hc18) hvs) ?_
              refine xo_nil ⟨⟨_, rfl⟩, fun _ hp => (by cases hp), ?_⟩
              refine xa_env (ρ' := [(66, _), (65, _), (64, _), (63, _), (62, _), (61, _), (2, _), (3, _), (5, _), (6, _), (7, _), (8, _), (9, _), (10, _), (38, _), (39, _), (40, _), (41, _), (44, _), (45, _), (46, _), (47, _), (48, _), (49, _), (50, _), (51, _), (52, _), (53, _), (54, _), (55, _), (56, _), (57, _), (58, _), (59, _), (60, _)]) rfl ?_
              refine xa_p (by kernel_rfl) 6 67 [63, 66] rfl rfl rfl rfl rfl rfl rfl (pv_none (rn_gtr rfl rfl)) ?_
              refine xa_end (by kernel_rfl) rfl (kseq_normal ?_)
              refine x_cond rfl (fun hc67 => ?_) (fun hc67 => ?_)
              · have hc67b := hc67
                try rw [Bool.not_eq_true'] at hc67
                try rw [Bool.not_eq_false'] at hc67
                try rw [decide_eq_true_eq] at hc67
                try rw [decide_eq_false_iff_not] at hc67
                try rw [Int.not_lt] at hc67
                try rw [Int.not_le] at hc67
                refine x_seq ?_
                refine x_region ?_
                refine xo_rn rfl (rn_assign rfl) ?_
                refine xo_nil (kseq_normal ?_)
                refine x_ret (kblock_ret (kseq_ret (kloop_ret (kblock_ret (kblock_ret (kseq_ret (kloop_ret (kblock_ret (kblock_ret (kseq_ret (kloop_ret (kblock_ret (kblock_ret (kseq_ret (kloop_ret (kblock_ret (kseq_ret ?_)))))))))))))))))
                refine ⟨rfl, [_], .cons (.tmp rfl) (.nil), fin_drop (μ' := []) (List.nil_sublist _) (fin_done (ret_tup1 ?_))⟩
                have e : leAt (.mk k nn ls) (.mk k2 nn2 ls2) i j k' q = false := by simp [leAt, hc67]
                rw [leqR, hg14_p, hc18]
                rw [all3_false (i := i) (by omega) (all3_false (i := j) (by omega) (all3_false (i := k') (by omega) (all3_false (i := q) (by omega) e)))]
                rfl
              · have hc67b := hc67
                try rw [Bool.not_eq_true'] at hc67
                try rw [Bool.not_eq_false'] at hc67
                try rw [decide_eq_true_eq] at hc67
                try rw [decide_eq_false_iff_not] at hc67
                try rw [Int.not_lt] at hc67
                try rw [Int.not_le] at hc67
                refine x_skip (kblock_normal (kseq_normal ?_))
                refine x_region ?_
                refine xo_rn rfl (rn_move rfl) ?_
                refine xo_rn rfl (by first | exact rn_addN rfl rfl (by unfold i64; omega) | exact rn_add rfl rfl) ?_
                refine xo_rn rfl (rn_assign rfl) ?_
                refine xo_nil (kloop_normal ?_)
                refine ⟨q + 1, by omega, ⟨by omega, all3_succ haq (by simp [leAt, hc67])⟩, ⟨rfl, rfl, rfl, rfl, rfl, rfl, rfl, trivial⟩, .cons_cons _ (.cons_cons _ (.refl _)), rfl, hle4.trans hle_b60⟩
            · have hc41b := hc41
              try rw [Bool.not_eq_true'] at hc41
              try rw [Bool.not_eq_false'] at hc41
              try rw [decide_eq_true_eq] at hc41
              try rw [decide_eq_false_iff_not] at hc41
              try rw [Int.not_lt] at hc41
              try rw [Int.not_le] at hc41
              refine x_exit (kseq_exit (kloop_exit (kblock_exit_here (kblock_normal (kseq_normal ?_)))))
              refine x_region ?_
              refine xo_rn rfl (rn_move rfl) ?_
              refine xo_rn rfl (by first | exact rn_addN rfl rfl (by unfold i64; omega) | exact rn_add rfl rfl) ?_
              refine xo_rn rfl (rn_assign rfl) ?_
              refine xo_nil (kloop_normal ?_)
              obtain rfl : q = 3 := by omega
              refine ⟨k' + 1, by omega, ⟨by omega, all3_succ hak haq⟩, ⟨rfl, rfl, rfl, rfl, rfl, rfl, trivial⟩, .cons_cons _ (.cons_cons _ (.refl _)), rfl, hle3.trans hle4⟩
          · have hc35b := hc35
            try rw [Bool.not_eq_true'] at hc35
            try rw [Bool.not_eq_false'] at hc35
            try rw [decide_eq_true_eq] at hc35
            try rw [decide_eq_false_iff_not] at hc35
            try rw [Int.not_lt] at hc35
            try rw [Int.not_le] at hc35
            refine x_exit (kseq_exit (kloop_exit (kblock_exit_here (kblock_normal (kseq_normal ?_)))))
            refine x_region ?_
            refine xo_rn rfl (rn_move rfl) ?_
            refine xo_rn rfl (by first | exact rn_addN rfl rfl (by unfold i64; omega) | exact rn_add rfl rfl) ?_
            refine xo_rn rfl (rn_assign rfl) ?_
            refine xo_nil (kloop_normal ?_)
            obtain rfl : k' = 3 := by omega
            refine ⟨j + 1, by omega, ⟨by omega, all3_succ haj hak⟩, ⟨rfl, rfl, rfl, rfl, rfl, trivial⟩, .cons_cons _ (.cons_cons _ (.refl _)), rfl, hle2.trans hle3⟩
        · have hc29b := hc29
          try rw [Bool.not_eq_true'] at hc29
          try rw [Bool.not_eq_false'] at hc29
          try rw [decide_eq_true_eq] at hc29
          try rw [decide_eq_false_iff_not] at hc29
          try rw [Int.not_lt] at hc29
          try rw [Int.not_le] at hc29
          refine x_exit (kseq_exit (kloop_exit (kblock_exit_here (kblock_normal (kseq_normal ?_)))))
          refine x_region ?_
          refine xo_rn rfl (rn_move rfl) ?_
          refine xo_rn rfl (by first | exact rn_addN rfl rfl (by unfold i64; omega) | exact rn_add rfl rfl) ?_
          refine xo_rn rfl (rn_assign rfl) ?_
          refine xo_nil (kloop_normal ?_)
          obtain rfl : j = 3 := by omega
          refine ⟨i + 1, by omega, ⟨by omega, all3_succ hai haj⟩, ⟨rfl, rfl, rfl, rfl, trivial⟩, .cons_cons _ (.cons_cons _ (.refl _)), rfl, hle1.trans hle2⟩
      · have hc23b := hc23
        try rw [Bool.not_eq_true'] at hc23
        try rw [Bool.not_eq_false'] at hc23
        try rw [decide_eq_true_eq] at hc23
        try rw [decide_eq_false_iff_not] at hc23
        try rw [Int.not_lt] at hc23
        try rw [Int.not_le] at hc23
        refine x_exit (kseq_exit (kloop_exit (kblock_exit_here (kseq_normal ?_))))
        refine x_seq ?_
        refine x_region ?_
        refine xo_rn rfl (rn_assign rfl) ?_
        refine xo_nil (kseq_normal ?_)
        refine x_ret ?_
        refine ⟨rfl, [_], .cons (.tmp rfl) (.nil), fin_drop (μ' := []) (List.nil_sublist _) (fin_done (ret_tup1 ?_))⟩
        obtain rfl : i = 3 := by omega
        rw [leqR, hg14_p, hc18, hai]
        rfl
  · replace hg14 := ne_f hg14
    have hg14_p := hg14
    try rw [Bool.not_eq_true'] at hg14_p
    try rw [Bool.not_eq_false'] at hg14_p
    try rw [decide_eq_true_eq] at hg14_p
    try rw [decide_eq_false_iff_not] at hg14_p
    try rw [Int.not_lt] at hg14_p
    try rw [Int.not_le] at hg14_p
    dsimp only [putU]
    refine xo_guard_no rfl rfl (by rw [hg14]; decide) rfl ?_
    refine xo_guard_no rfl rfl (by rw [hg14]; decide) rfl ?_
    refine xo_rn rfl (rn_pick_t rfl hg14 rfl) ?_
    refine xo_nil (kseq_normal ?_)
    refine x_cond_true rfl ?_
    refine x_seq ?_
    refine x_region ?_
    refine xo_rn rfl (rn_assign rfl) ?_
    refine xo_nil (kseq_normal ?_)
    refine x_ret (kseq_ret ?_)
    refine ⟨rfl, [_], .cons (.tmp rfl) (.nil), fin_drop (μ' := []) (List.nil_sublist _) (fin_done (ret_tup1 ?_))⟩
    simp [leqR, hg14_p]

theorem rinst_spec (l : Lv) : ∀ (bys : List Lv) (m : Mem) (cs : List Value) (sv : Value), LvV m l cs → LvsS m bys sv → allF l bys.length = true → Cspec Try.prog 41 #[.agg cs.toArray, sv] m [] (Ret (LvOut (instF l bys))) := by
  induction l using Lv.ind with
  | _ k nn ls ih =>
    intro bys m cs sv hl hb hall
    have hb0 := hb
    obtain ⟨_, _, _, a, cap, ⟨rfl, rfl, rfl⟩, rfl, hk, hn, hlen, hat⟩ := hl.open
    obtain ⟨ba, bcap, rfl, hbcap, hblen, hbat⟩ := hb.open
    refine spec_body (vs := [_, _]) Try.func41 rfl Try.ntmps41 rfl (fun E => ?_)
    refine x_seq ?_
    refine x_region ?_
    refine xo_box rfl rfl (cs := [_, _, _]) rfl (fun b2 => ?_)
    refine xo_alloc rfl tz24 (cs := [_, _, _]) rfl (fun b4 => ?_)
    refine xo_nil (kseq_normal ?_)
    refine x_seq ?_
    refine x_seq ?_
    refine x_region ?_
    refine xo_rn rfl (rn_fieldAddr tf24_0 rfl) ?_
    refine xo_rl rfl (rl_own (q := 1) tk3 rfl rfl rfl) ?_
    refine xo_rn rfl (rn_eql rfl rfl) ?_
    refine xo_nil (kseq_normal ?_)
    refine x_cond rfl (fun hc9 => ?_) (fun hc9 => ?_)
    · have hc9b := hc9
      try rw [Bool.not_eq_true'] at hc9
      try rw [Bool.not_eq_false'] at hc9
      try rw [decide_eq_true_eq] at hc9
      try rw [decide_eq_false_iff_not] at hc9
      try rw [Int.not_lt] at hc9
      try rw [Int.not_le] at hc9
      refine x_seq ?_
      refine x_region ?_
      refine xo_rn rfl (rn_move rfl) ?_
      refine xo_rn rfl (rn_fieldAddr tf24_1 rfl) ?_
      refine xo_rl rfl (rl_own (q := 1) tk3 rfl rfl rfl) ?_
      obtain ⟨h0, h4⟩ := all_param hall hc9
      obtain ⟨lc, hlc⟩ : ∃ lc, bys[nn.toNat]? = some lc := ⟨_, List.getElem?_eq_getElem (by omega)⟩
      obtain ⟨b, off, k1, n1, l1, a1, cap1, rfl, rfl, hrd, hlv⟩ := hbat _ lc hlc
      refine xo_rn rfl (rn_indexAddr (q := nn.toNat) tsl22 rfl rfl (by omega) (by omega)) ?_
      refine xo_rl rfl (rl_memN tk24 rfl (hrd) rfl) ?_
      refine xo_call0 rfl cl10 (vs := [_]) rfl (CopyLevel_spec _ _ _ hlv) (fun v15 m15 _ hle15 hq15 => ?_)
      obtain ⟨c2, rfl, hc2⟩ := hq15
      obtain ⟨k3, n3, l3, a3, cap3, heq, rfl, -, -, -, -⟩ := hc2.open
      refine xo_store (q := 0) (vs := [_, _, _]) (cs' := [_, _, _]) (μ' := [_, _]) tk24 rfl rfl rfl rfl rfl rfl rfl rfl rfl ?_
      refine xo_nil (kseq_normal ?_)
      refine x_ret (kseq_ret ?_)
      refine ⟨rfl, [_], .cons (.cell (q := 0) (v := .agg #[_, _, _]) rfl rfl tk24 rfl) (.nil), fin_drop (μ' := []) (List.nil_sublist _) (fin_done (ret_tup1 ?_))⟩
      refine ⟨_, rfl, ?_⟩
      have e : instF (.mk k nn ls) bys = Lv.mk k1 n1 l1 := by simp [instF, instNode, hc9, hlc]
      rw [e]
      exact hc2
    · have hc9b := hc9
      try rw [Bool.not_eq_true'] at hc9
      try rw [Bool.not_eq_false'] at hc9
      try rw [decide_eq_true_eq] at hc9
      try rw [decide_eq_false_iff_not] at hc9
      try rw [Int.not_lt] at hc9
      try rw [Int.not_le] at hc9
      refine x_skip (kseq_normal ?_)
      refine x_seq ?_
      refine x_region ?_
      refine xo_rn rfl (rn_fieldAddr tf24_0 rfl) ?_
      refine xo_rl rfl (rl_own (q := 1) tk3 rfl rfl rfl) ?_
      refine xo_rn rfl (rn_fieldAddr tf24_1 rfl) ?_
      refine xo_rl rfl (rl_own (q := 1) tk3 rfl rfl rfl) ?_
      refine xo_rn rfl (rn_build (pv := [(_, _), (_, _)]) (zs := [_, _, _]) (cs := [_, _, _]) tpl24 tz24 rfl rfl rfl) ?_
      refine xo_alloc rfl tz24 (cs := [_, _, _]) rfl (fun b5 => ?_)
      refine xo_store (q := 0) (vs := [_, _, _]) (cs' := [_, _, _]) (μ' := [_, _, _]) tk24 rfl rfl rfl rfl rfl rfl rfl rfl rfl ?_
      refine xo_nil (kseq_normal ?_)
      refine x_seq ?_
      refine x_seq ?_
      refine x_region ?_
      refine xo_rn rfl (rn_assign rfl) ?_
      refine xo_nil (kseq_normal ?_)
      refine x_block ?_
      refine x_nilRow 24 3 ?_
      refine x_loop (G := (Option Addr × Nat) × List (List Value)) (fun g => [(6, .int .i64 (g.2.length : Int)), (5, .pointer (some ⟨b5, 0, none⟩)), (4, .pointer (some ⟨b4, 0, none⟩)), (2, .pointer (some ⟨b2, 0, none⟩)), (1, .slice ba bys.length bcap)])
        (fun g => [.row (.slice g.1.1 g.2.length g.1.2) 24 3 g.2.length g.2.flatten, bx b5 24 [.int .i64 k, .int .i64 nn, .slice g.1.1 g.2.length g.1.2], bx b4 24 [.int .i64 0, .int .i64 0, .slice none 0 0], bx b2 24 [.int .i64 k, .int .i64 nn, .slice a ls.length cap]])
        (fun g m' => g.2.length ≤ ls.length ∧ g.2.length ≤ g.1.2 ∧ LvAll m' (instFs (ls.take g.2.length) bys) g.2) (fun g => ls.length - g.2.length) ((none, 0), [])
        ⟨by simp, by simp, by simp [LvAll, instFs]⟩ ⟨rfl, rfl, rfl, rfl, rfl, trivial⟩ (.cons_cons _ (.cons_cons _ (.cons_cons _ (.cons_cons _ (.refl _))))) ?_
      rintro ⟨⟨a0, c0⟩, css⟩ m' ⟨hi, hic, hcs⟩ hle
      dsimp only at hi hic hcs ⊢
      refine x_seq ?_
      refine x_seq ?_
      refine x_region ?_
      refine xo_rn rfl (rn_move rfl) ?_
      refine xo_rn rfl (rn_fieldAddr tf24_2 rfl) ?_
      refine xo_rl rfl (rl_own (q := 3) tk22 rfl rfl rfl) ?_
      refine xo_rn rfl (rn_len_slice tsl22 rfl) ?_
      refine xo_rn rfl (rn_lss rfl rfl) ?_
      refine xo_nil (kseq_normal ?_)
      refine x_cond rfl (fun hc25 => ?_) (fun hc25 => ?_)
      · have hc25b := hc25
        try rw [Bool.not_eq_true'] at hc25
        try rw [Bool.not_eq_false'] at hc25
        try rw [decide_eq_true_eq] at hc25
        try rw [decide_eq_false_iff_not] at hc25
        try rw [Int.not_lt] at hc25
        try rw [Int.not_le] at hc25
        refine x_skip (kseq_normal ?_)
        refine x_seq ?_
        refine x_block ?_
        refine x_env (ρ' := [(1, _), (2, _), (4, _), (5, _), (6, _), (21, _), (22, _), (23, _), (24, _), (25, _)]) ⟨rfl, rfl, rfl, rfl, rfl, rfl, rfl, rfl, rfl, rfl, trivial⟩ ?_
        refine x_region_draw (by kernel_rfl) ?_
        refine xa_p (by kernel_rfl) 0 28 [5] rfl rfl rfl rfl rfl rfl rfl (pv_none (rn_fieldAddr tf24_2 rfl)) ?_
        refine xa_l (by kernel_rfl) 1 29 [28] rfl rfl rfl rfl rfl rfl rfl (pvl_none (rl_own (q := 1) tk22 rfl rfl rfl)) ?_
        refine xa_p (by kernel_rfl) 2 30 [2] rfl rfl rfl rfl rfl rfl rfl (pv_none (rn_fieldAddr tf24_2 rfl)) ?_
        refine xa_l (by kernel_rfl) 3 31 [30] rfl rfl rfl rfl rfl rfl rfl (pvl_none (rl_own (q := 3) tk22 rfl rfl rfl)) ?_
        refine xa_p (by kernel_rfl) 4 32 [6] rfl rfl rfl rfl rfl rfl rfl (pv_none (rn_move rfl)) ?_
        have hi' : css.length < ls.length := by omega
        obtain ⟨lc, hlc⟩ : ∃ lc, ls[css.length]? = some lc := ⟨_, List.getElem?_eq_getElem hi'⟩
        obtain ⟨b, off, k1, n1, l1, a1, cap1, rfl, rfl, hrd, hlv⟩ := hat _ lc hlc
        refine xa_p (by kernel_rfl) 5 33 [31, 32] rfl rfl rfl rfl rfl rfl rfl (pv_none (rn_indexAddr (q := css.length) tsl22 rfl rfl rfl hi')) ?_
        refine xa_l (by kernel_rfl) 6 34 [33] rfl rfl rfl rfl rfl rfl rfl (pvl_none (rl_memN tk24 rfl (hrd.mono hle) rfl)) ?_
        refine xa_p (by kernel_rfl) 7 35 [1] rfl rfl rfl rfl rfl rfl rfl (pv_none (rn_move rfl)) ?_
        refine xa_effect (by kernel_rfl) 8 rfl rfl (by kernel_rfl) [6, 7, 5, 3, 4, 2] (by kernel_rfl) rfl (pp' := [_]) (pl' := [_]) (hid := [28, 29]) rfl rfl rfl ?_
        refine xo_call0 rfl cl41 (vs := [_, _]) rfl (ih _ (List.mem_of_getElem? hlc) _ _ _ _ (hlv.mono hle) (hb0.mono hle) (all_arg hall hlc)) (fun v36 m36 _ hle36 hq36 => ?_)
        obtain ⟨c2, rfl, hc2⟩ := hq36
        have hc2' := hc2
        obtain ⟨k2, n2, l2, a2, cap2, heq, rfl, -, -, -, -⟩ := hc2'.open
        refine xo_nil ⟨⟨_, rfl⟩, List.forall_mem_cons.2 ⟨pvl_none (rl_own (q := 1) tk22 rfl rfl rfl), fun _ hp => (by cases hp)⟩, ?_⟩
        refine xa_env (ρ' := [(28, _), (29, _), (36, _), (35, _), (34, _), (33, _), (32, _), (31, _), (30, _), (1, _), (2, _), (4, _), (5, _), (6, _), (21, _), (22, _), (23, _), (24, _), (25, _)]) rfl ?_
        refine xa_effect (by kernel_rfl) 9 rfl rfl (by kernel_rfl) [] (by kernel_rfl) rfl (pp' := [_]) (pl' := [_]) (hid := [28, 29]) rfl rfl rfl ?_
        refine xo_buildSlice (pv := [(_, _)]) (zs := [_, _, _]) (cs := [_, _, _]) rfl tsl22 tz24 rfl rfl rfl rfl (fun b37 => ?_)
        refine xo_nil ⟨⟨_, rfl⟩, List.forall_mem_cons.2 ⟨pvl_none (rl_own (q := 2) tk22 rfl rfl rfl), fun _ hp => (by cases hp)⟩, ?_⟩
        refine xa_env (ρ' := [(28, _), (29, _), (37, _), (36, _), (35, _), (34, _), (33, _), (32, _), (31, _), (30, _), (1, _), (2, _), (4, _), (5, _), (6, _), (21, _), (22, _), (23, _), (24, _), (25, _)]) rfl ?_
        refine xa_effect (by kernel_rfl) 10 rfl rfl (by kernel_rfl) [1, 9, 8, 0, 6, 7, 5, 3, 4, 2] (by kernel_rfl) rfl (pp' := []) (pl' := []) (hid := []) rfl rfl rfl ?_
        refine xo_append_box (q := 1) (r := 0) (μ' := fun a1 c1 => [_, .row (.slice a1 _ c1) _ _ _ _, _, _, _]) rfl Try.underlying22 inf24 rfl (by decide) rfl rfl rfl rfl rfl (by simp [Value.oneCell']) (by unfold maxLen; omega) (by omega) (fun _ _ => rfl) (fun a38 c38 hcap38 => ?_)
        refine xo_nil ⟨⟨_, rfl⟩, fun _ hp => (by cases hp), ?_⟩
        refine xa_env (ρ' := [(38, _), (28, _), (29, _), (37, _), (36, _), (35, _), (34, _), (33, _), (32, _), (31, _), (30, _), (1, _), (2, _), (4, _), (5, _), (6, _), (21, _), (22, _), (23, _), (24, _), (25, _)]) rfl ?_
        refine xa_p (by kernel_rfl) 11 39 [5] rfl rfl rfl rfl rfl rfl rfl (pv_none (rn_fieldAddr tf24_2 rfl)) ?_
        refine xa_effect (by kernel_rfl) 12 rfl rfl (by kernel_rfl) [11, 10, 0, 1, 2, 3, 4, 5, 6, 7, 8, 9] (by kernel_rfl) rfl (pp' := []) (pl' := []) (hid := []) rfl rfl rfl ?_
        refine xo_store (q := 2) (vs := [_]) (cs' := [_, _, _]) (μ' := [_, _, _, _, _]) tk22 rfl rfl rfl rfl rfl rfl rfl rfl rfl ?_
        refine xo_nil ⟨⟨undef, rfl⟩, fun _ hp => (by cases hp), ?_⟩
        refine xa_env (ρ' := [(39, _), (38, _), (28, _), (29, _), (37, _), (36, _), (35, _), (34, _), (33, _), (32, _), (31, _), (30, _), (1, _), (2, _), (4, _), (5, _), (6, _), (21, _), (22, _), (23, _), (24, _), (25, _)]) rfl ?_
        refine xa_end (by kernel_rfl) rfl (kblock_normal (kseq_normal ?_))
        refine x_region ?_
        refine xo_rn rfl (rn_move rfl) ?_
        refine xo_rn rfl (by first | exact rn_addN rfl rfl (by unfold i64; omega) | exact rn_add rfl rfl) ?_
        refine xo_rn rfl (rn_assign rfl) ?_
        refine xo_nil (kloop_normal ?_)
        refine ⟨((a38, c38), css ++ [[.int .i64 k2, .int .i64 n2, .slice a2 l2.length cap2]]), by simp; omega, ⟨by simp; omega, by simpa using hcap38, ?_⟩, ⟨by simp [eget], rfl, rfl, rfl, rfl, trivial⟩, ?_, rfl, hle.trans hle36⟩
        · rw [List.length_append, List.length_singleton, instFs_take _ _ _ hlc]
          exact (hcs.mono hle36).snoc hc2
        · simp only [List.length_append, List.length_cons, List.length_nil, Nat.zero_add, List.flatten_append, List.flatten_cons, List.flatten_nil, List.append_nil]
          exact .cons _ (.cons_cons _ (.cons_cons _ (.cons_cons _ (.cons_cons _ (.refl _)))))
      · have hc25b := hc25
        try rw [Bool.not_eq_true'] at hc25
        try rw [Bool.not_eq_false'] at hc25
        try rw [decide_eq_true_eq] at hc25
        try rw [decide_eq_false_iff_not] at hc25
        try rw [Int.not_lt] at hc25
        try rw [Int.not_le] at hc25
        refine x_exit (kseq_exit (kloop_exit (kblock_exit_here (kseq_normal ?_))))
        refine x_seq ?_
        refine x_region ?_
        refine xo_rl rfl (rl_own (q := 1) (v := .agg #[_, _, _]) tk24 rfl rfl rfl) ?_
        refine xo_store (q := 2) (vs := [_, _, _]) (cs' := [_, _, _]) (μ' := [_, _, _, _]) tk24 rfl rfl rfl rfl rfl rfl rfl rfl rfl ?_
        refine xo_nil (kseq_normal ?_)
        refine x_ret ?_
        obtain hl : css.length = ls.length := by omega
        rw [hl, List.take_length] at hcs
        refine ⟨rfl, [_], .cons (.cell (q := 2) (v := .agg #[_, _, _]) rfl rfl tk24 rfl) .nil, ?_⟩
        refine fin_row (q := 0) rfl (fun m2 hle2 hrow => ?_)
        refine fin_done (ret_tup1 ⟨_, rfl, ?_⟩)
        have e : instF (.mk k nn ls) bys = .mk k nn (instFs ls bys) := by simp [instF, instNode, hc9]
        rw [e]
        simp only [LvV]
        exact ⟨hk, hn, a0, c0, by rw [hl, instFs_length], ⟨by rw [instFs_length]; omega, by rw [instFs_length]; omega⟩, (hcs.mono hle2).made hrow⟩

theorem rgrown_spec (l : Lv) : ∀ (bys : List Lv) (m : Mem) (cs : List Value) (sv : Value), LvV m l cs → LvsS m bys sv → allF l bys.length = true → sizeL l ≤ 100000 → Scal Try.prog 40 #[.agg cs.toArray, sv] m (.int .i64 (grownF l bys)) := by
  induction l using Lv.ind with
  | _ k nn ls ih =>
    intro bys m cs sv hl hb hall hsz
    refine scal_of ?_
    have hb0 := hb
    have hszs : sizeLs ls ≤ 100000 := by simp only [sizeL] at hsz; omega
    have hnod : ∀ l, lnF l 64 = nodesF l := fun l => by rw [lnF_eq l 64 (by omega), nodesF_eq]; rfl
    obtain ⟨_, _, _, a, cap, ⟨rfl, rfl, rfl⟩, rfl, hk, hn, hlen, hat⟩ := hl.open
    obtain ⟨ba, bcap, rfl, hbcap, hblen, hbat⟩ := hb.open
    refine spec_body (vs := [_, _]) Try.func40 rfl Try.ntmps40 rfl (fun E => ?_)
    refine x_seq ?_
    refine x_region ?_
    refine xo_box rfl rfl (cs := [_, _, _]) rfl (fun b2 => ?_)
    refine xo_rn rfl (rn_assign rfl) ?_
    refine xo_nil (kseq_normal ?_)
    refine x_seq ?_
    refine x_seq ?_
    refine x_region ?_
    refine xo_rn rfl (rn_fieldAddr tf24_0 rfl) ?_
    refine xo_rl rfl (rl_own (q := 0) tk3 rfl rfl rfl) ?_
    refine xo_rn rfl (rn_eql rfl rfl) ?_
    refine xo_nil (kseq_normal ?_)
    refine x_cond rfl (fun hc9 => ?_) (fun hc9 => ?_)
    · have hc9b := hc9
      try rw [Bool.not_eq_true'] at hc9
      try rw [Bool.not_eq_false'] at hc9
      try rw [decide_eq_true_eq] at hc9
      try rw [decide_eq_false_iff_not] at hc9
      try rw [Int.not_lt] at hc9
      try rw [Int.not_le] at hc9
      refine x_seq ?_
      refine x_region ?_
      refine xo_rn rfl (rn_move rfl) ?_
      refine xo_rn rfl (rn_fieldAddr tf24_1 rfl) ?_
      refine xo_rl rfl (rl_own (q := 0) tk3 rfl rfl rfl) ?_
      obtain ⟨h0, h4⟩ := all_param hall hc9
      obtain ⟨lc, hlc⟩ : ∃ lc, bys[nn.toNat]? = some lc := ⟨_, List.getElem?_eq_getElem (by omega)⟩
      obtain ⟨b, off, k1, n1, l1, a1, cap1, rfl, rfl, hrd, hlv⟩ := hbat _ lc hlc
      refine xo_rn rfl (rn_indexAddr (q := nn.toNat) tsl22 rfl rfl (by omega) (by omega)) ?_
      refine xo_rl rfl (rl_memN tk24 rfl (hrd) rfl) ?_
      refine xo_callS rfl cl22 (vs := [_, _]) rfl (hnod _ ▸ LevelNodes_spec _ 64 _ _ hlv (by omega) (by omega)) ?_
      refine xo_rn rfl (rn_assign rfl) ?_
      refine xo_nil (kseq_normal ?_)
      refine x_ret (kseq_ret ?_)
      refine ⟨rfl, [_], .cons (.tmp rfl) (.nil), fin_drop (μ' := []) (List.nil_sublist _) (fin_done (ret_tup1 ?_))⟩
      simp [grownF, grownNode, hc9, hlc]
    · have hc9b := hc9
      try rw [Bool.not_eq_true'] at hc9
      try rw [Bool.not_eq_false'] at hc9
      try rw [decide_eq_true_eq] at hc9
      try rw [decide_eq_false_iff_not] at hc9
      try rw [Int.not_lt] at hc9
      try rw [Int.not_le] at hc9
      refine x_skip (kseq_normal ?_)
      refine x_seq ?_
      refine x_region ?_
      refine xo_rn rfl (rn_assign rfl) ?_
      refine xo_nil (kseq_normal ?_)
      refine x_seq ?_
      refine x_seq ?_
      refine x_region ?_
      refine xo_rn rfl (rn_assign rfl) ?_
      refine xo_nil (kseq_normal ?_)
      refine x_block ?_
      refine x_loop (G := Nat) (fun g => [(6, .int .i64 (g : Int)), (5, .int .i64 (1 + grownFs (ls.take g) bys)), (2, .pointer (some ⟨b2, 0, none⟩)), (1, .slice ba bys.length bcap)])
        (fun g => [bx b2 24 [.int .i64 k, .int .i64 nn, .slice a ls.length cap]]) (fun g m' => g ≤ ls.length) (fun g => ls.length - g) 0
        (by simp) ⟨rfl, rfl, rfl, rfl, trivial⟩ (.cons_cons _ (.refl _)) ?_
      rintro i m' hi hle
      refine x_seq ?_
      refine x_seq ?_
      refine x_region ?_
      refine xo_rn rfl (rn_move rfl) ?_
      refine xo_rn rfl (rn_fieldAddr tf24_2 rfl) ?_
      refine xo_rl rfl (rl_own (q := 0) tk22 rfl rfl rfl) ?_
      refine xo_rn rfl (rn_len_slice tsl22 rfl) ?_
      refine xo_rn rfl (rn_lss rfl rfl) ?_
      refine xo_nil (kseq_normal ?_)
      refine x_cond rfl (fun hc20 => ?_) (fun hc20 => ?_)
      · have hc20b := hc20
        try rw [Bool.not_eq_true'] at hc20
        try rw [Bool.not_eq_false'] at hc20
        try rw [decide_eq_true_eq] at hc20
        try rw [decide_eq_false_iff_not] at hc20
        try rw [Int.not_lt] at hc20
        try rw [Int.not_le] at hc20
        refine x_skip (kseq_normal ?_)
        refine x_seq ?_
        refine x_block ?_
        refine x_region ?_
        refine xo_rn rfl (rn_move rfl) ?_
        refine xo_rn rfl (rn_fieldAddr tf24_2 rfl) ?_
        refine xo_rl rfl (rl_own (q := 0) tk22 rfl rfl rfl) ?_
        refine xo_rn rfl (rn_move rfl) ?_
        have hi' : i < ls.length := by omega
        obtain ⟨lc, hlc⟩ : ∃ lc, ls[i]? = some lc := ⟨_, List.getElem?_eq_getElem hi'⟩
        obtain ⟨b, off, k1, n1, l1, a1, cap1, rfl, rfl, hrd, hlv⟩ := hat _ lc hlc
        have hgb := grownFs_bound (ls.take i) bys
        have hgt := sizeLs_take ls i
        have hgx := grownF_bound (.mk k1 n1 l1) bys
        have hgs := size_arg hsz hlc
        refine xo_rn rfl (rn_indexAddr (q := i) tsl22 rfl rfl rfl hi') ?_
        refine xo_rl rfl (rl_memN tk24 rfl (hrd.mono hle) rfl) ?_
        refine xo_rn rfl (rn_move rfl) ?_
        refine xo_callS rfl cl40 (vs := [_, _]) rfl (ih _ (List.mem_of_getElem? hlc) _ _ _ _ (hlv.mono hle) (hb0.mono hle) (all_arg hall hlc) hgs) ?_
        refine xo_rn rfl (by first | exact rn_addN rfl rfl (by unfold i64; omega) | exact rn_add rfl rfl) ?_
        refine xo_rn rfl (rn_assign rfl) ?_
        refine xo_nil (kblock_normal (kseq_normal ?_))
        refine x_region ?_
        refine xo_rn rfl (rn_move rfl) ?_
        refine xo_rn rfl (by first | exact rn_addN rfl rfl (by unfold i64; omega) | exact rn_add rfl rfl) ?_
        refine xo_rn rfl (rn_assign rfl) ?_
        refine xo_nil (kloop_normal ?_)
        refine ⟨i + 1, by omega, by omega, ⟨rfl, ?_, rfl, rfl, trivial⟩, .cons_cons _ (.refl _), rfl, hle⟩
        show some _ = some _
        rw [grownFs_take _ _ _ hlc, Int.add_assoc]
      · have hc20b := hc20
        try rw [Bool.not_eq_true'] at hc20
        try rw [Bool.not_eq_false'] at hc20
        try rw [decide_eq_true_eq] at hc20
        try rw [decide_eq_false_iff_not] at hc20
        try rw [Int.not_lt] at hc20
        try rw [Int.not_le] at hc20
        refine x_exit (kseq_exit (kloop_exit (kblock_exit_here (kseq_normal ?_))))
        refine x_seq ?_
        refine x_region ?_
        refine xo_rn rfl (rn_move rfl) ?_
        refine xo_rn rfl (rn_assign rfl) ?_
        refine xo_nil (kseq_normal ?_)
        refine x_ret ?_
        refine ⟨rfl, [_], .cons (.tmp rfl) (.nil), fin_drop (μ' := []) (List.nil_sublist _) (fin_done (ret_tup1 ?_))⟩
        obtain rfl : i = ls.length := by omega
        rw [List.take_length]
        simp [grownF, grownNode, hc9]

theorem rInst_spec (l : Lv) (bys : List Lv) (m : Mem) (cs : List Value) (sv : Value) (hl : LvV m l cs) (hb : LvsS m bys sv) : Cspec Try.prog 25 #[.agg cs.toArray, sv] m [] (Ret (InstOut (InstF l bys))) := by
  have hl0 := hl
  have hb0 := hb
  obtain ⟨k, nn, ls, a, cap, rfl, rfl, hk, hn, hlen, hat⟩ := hl.open
  obtain ⟨ba, bcap, rfl, hbcap, hblen, hbat⟩ := hb.open
  refine spec_body (vs := [_, _]) Try.func25 rfl Try.ntmps25 rfl (fun E => ?_)
  refine x_seq ?_
  refine x_region ?_
  refine xo_box rfl rfl (cs := [_, _, _]) rfl (fun b2 => ?_)
  refine xo_alloc rfl tz24 (cs := [_, _, _]) rfl (fun b4 => ?_)
  refine xo_rn rfl (rn_assign rfl) ?_
  refine xo_nil (kseq_normal ?_)
  refine x_seq ?_
  refine x_seq ?_
  refine x_region ?_
  refine xo_rl rfl (rl_own (q := 1) (v := .agg #[_, _, _]) tk24 rfl rfl rfl) ?_
  refine xo_rn rfl (rn_move rfl) ?_
  refine xo_rn rfl (rn_len_slice tsl22 rfl) ?_
  refine xo_callS rfl cl14 (vs := [_, _]) rfl (rRight_spec _ _ _ _ hl0) ?_
  refine xo_rn rfl (rn_not rfl) ?_
  refine xo_nil (kseq_normal ?_)
  refine x_cond rfl (fun hc11 => ?_) (fun hc11 => ?_)
  · have hc11b := hc11
    try rw [Bool.not_eq_true'] at hc11
    try rw [Bool.not_eq_false'] at hc11
    try rw [decide_eq_true_eq] at hc11
    try rw [decide_eq_false_iff_not] at hc11
    try rw [Int.not_lt] at hc11
    try rw [Int.not_le] at hc11
    refine x_seq ?_
    refine x_region ?_
    refine xo_rn rfl (rn_build (pv := []) (zs := [_, _, _]) (cs := [_, _, _]) tpl24 tz24 rfl rfl rfl) ?_
    refine xo_store (q := 0) (vs := [_, _, _]) (cs' := [_, _, _]) (μ' := [_, _]) tk24 rfl rfl rfl rfl rfl rfl rfl rfl rfl ?_
    refine xo_rn rfl (rn_assign rfl) ?_
    refine xo_nil (kseq_normal ?_)
    refine x_ret (kseq_ret ?_)
    refine ⟨rfl, [_, _], .cons (.cell (q := 0) (v := .agg #[_, _, _]) rfl rfl tk24 rfl) (.cons (.tmp rfl) (.nil)), fin_drop (μ' := []) (List.nil_sublist _) (fin_done (ret_tup2 ?_))⟩
    simp only [InstF, hc11, Bool.false_eq_true, if_false]
    rfl
  · have hc11b := hc11
    try rw [Bool.not_eq_true'] at hc11
    try rw [Bool.not_eq_false'] at hc11
    try rw [decide_eq_true_eq] at hc11
    try rw [decide_eq_false_iff_not] at hc11
    try rw [Int.not_lt] at hc11
    try rw [Int.not_le] at hc11
    refine x_skip (kseq_normal ?_)
    refine x_seq ?_
    refine x_seq ?_
    refine x_region ?_
    refine xo_rn rfl (rn_assign rfl) ?_
    refine xo_nil (kseq_normal ?_)
    refine x_block ?_
    refine x_loop (G := Nat) (fun g => [(6, .int .i64 (g : Int)), (4, .pointer (some ⟨b4, 0, none⟩)), (2, .pointer (some ⟨b2, 0, none⟩)), (1, .slice ba bys.length bcap)])
      (fun g => [bx b4 24 [.int .i64 0, .int .i64 0, .slice none 0 0], bx b2 24 [.int .i64 k, .int .i64 nn, .slice a ls.length cap]]) (fun g m' => g ≤ bys.length ∧ m' = m ∧ byRight (bys.drop g) = byRight bys) (fun g => bys.length - g) 0
      ⟨by simp, rfl, rfl⟩ ⟨rfl, rfl, rfl, rfl, trivial⟩ (.cons_cons _ (.cons_cons _ (.refl _))) ?_
    rintro i m' ⟨hi, rfl, hby⟩ hle
    refine x_seq ?_
    refine x_seq ?_
    refine x_region ?_
    refine xo_rn rfl (rn_move rfl) ?_
    refine xo_rn rfl (rn_move rfl) ?_
    refine xo_rn rfl (rn_len_slice tsl22 rfl) ?_
    refine xo_rn rfl (rn_lss rfl rfl) ?_
    refine xo_nil (kseq_normal ?_)
    refine x_cond rfl (fun hc16 => ?_) (fun hc16 => ?_)
    · have hc16b := hc16
      try rw [Bool.not_eq_true'] at hc16
      try rw [Bool.not_eq_false'] at hc16
      try rw [decide_eq_true_eq] at hc16
      try rw [decide_eq_false_iff_not] at hc16
      try rw [Int.not_lt] at hc16
      try rw [Int.not_le] at hc16
      refine x_skip (kseq_normal ?_)
      refine x_seq ?_
      refine x_block ?_
      refine x_seq ?_
      refine x_region ?_
      refine xo_rn rfl (rn_move rfl) ?_
      refine xo_rn rfl (rn_move rfl) ?_
      have hi' : i < bys.length := by omega
      obtain ⟨lc, hlc⟩ : ∃ lc, bys[i]? = some lc := ⟨_, List.getElem?_eq_getElem hi'⟩
      obtain ⟨b, off, k1, n1, l1, a1, cap1, rfl, rfl, hrd, hlv⟩ := hbat _ lc hlc
      refine xo_rn rfl (rn_indexAddr (q := i) tsl22 rfl rfl rfl hi') ?_
      refine xo_rl rfl (rl_memN tk24 rfl (hrd) rfl) ?_
      refine xo_callS rfl cl14 (vs := [_, _]) rfl (rRight_spec _ _ _ _ hlv) ?_
      refine xo_rn rfl (rn_not rfl) ?_
      refine xo_nil (kseq_normal ?_)
      refine x_cond rfl (fun hc24 => ?_) (fun hc24 => ?_)
      · have hc24b := hc24
        try rw [Bool.not_eq_true'] at hc24
        try rw [Bool.not_eq_false'] at hc24
        try rw [decide_eq_true_eq] at hc24
        try rw [decide_eq_false_iff_not] at hc24
        try rw [Int.not_lt] at hc24
        try rw [Int.not_le] at hc24
        refine x_seq ?_
        refine x_region ?_
        refine xo_rn rfl (rn_build (pv := []) (zs := [_, _, _]) (cs := [_, _, _]) tpl24 tz24 rfl rfl rfl) ?_
        refine xo_store (q := 0) (vs := [_, _, _]) (cs' := [_, _, _]) (μ' := [_, _]) tk24 rfl rfl rfl rfl rfl rfl rfl rfl rfl ?_
        refine xo_rn rfl (rn_assign rfl) ?_
        refine xo_nil (kseq_normal ?_)
        refine x_ret (kblock_ret (kseq_ret (kloop_ret (kblock_ret (kseq_ret ?_)))))
        refine ⟨rfl, [_, _], .cons (.cell (q := 0) (v := .agg #[_, _, _]) rfl rfl tk24 rfl) (.cons (.tmp rfl) (.nil)), fin_drop (μ' := []) (List.nil_sublist _) (fin_done (ret_tup2 ?_))⟩
        rw [byRight_drop hlc, hc24] at hby
        simp only [InstF, hc11, if_true, ← hby, Bool.false_and, Bool.false_eq_true, if_false]
        rfl
      · have hc24b := hc24
        try rw [Bool.not_eq_true'] at hc24
        try rw [Bool.not_eq_false'] at hc24
        try rw [decide_eq_true_eq] at hc24
        try rw [decide_eq_false_iff_not] at hc24
        try rw [Int.not_lt] at hc24
        try rw [Int.not_le] at hc24
        refine x_skip (kblock_normal (kseq_normal ?_))
        refine x_region ?_
        refine xo_rn rfl (rn_move rfl) ?_
        refine xo_rn rfl (by first | exact rn_addN rfl rfl (by unfold i64; omega) | exact rn_add rfl rfl) ?_
        refine xo_rn rfl (rn_assign rfl) ?_
        refine xo_nil (kloop_normal ?_)
        refine ⟨i + 1, by omega, ⟨by omega, rfl, ?_⟩, ⟨rfl, rfl, rfl, rfl, trivial⟩, .cons_cons _ (.cons_cons _ (.refl _)), rfl, hle⟩
        rw [← hby, byRight_drop hlc, hc24, Bool.true_and]
    · have hc16b := hc16
      try rw [Bool.not_eq_true'] at hc16
      try rw [Bool.not_eq_false'] at hc16
      try rw [decide_eq_true_eq] at hc16
      try rw [decide_eq_false_iff_not] at hc16
      try rw [Int.not_lt] at hc16
      try rw [Int.not_le] at hc16
      refine x_exit (kseq_exit (kloop_exit (kblock_exit_here (kseq_normal ?_))))
      refine x_seq ?_
      refine x_seq ?_
      refine x_region ?_
      refine xo_rl rfl (rl_own (q := 1) (v := .agg #[_, _, _]) tk24 rfl rfl rfl) ?_
      refine xo_rn rfl (rn_move rfl) ?_
      obtain rfl : i = bys.length := by omega
      rw [List.drop_length] at hby
      refine xo_callS rfl cl40 (vs := [_, _]) rfl (rgrown_spec _ _ _ _ _ hl0 hb0 (right_all hc11) (right_size hc11)) ?_
      refine xo_rn rfl (rn_gtr rfl rfl) ?_
      refine xo_nil (kseq_normal ?_)
      refine x_cond rfl (fun hc29 => ?_) (fun hc29 => ?_)
      · have hc29b := hc29
        try rw [Bool.not_eq_true'] at hc29
        try rw [Bool.not_eq_false'] at hc29
        try rw [decide_eq_true_eq] at hc29
        try rw [decide_eq_false_iff_not] at hc29
        try rw [Int.not_lt] at hc29
        try rw [Int.not_le] at hc29
        refine x_seq ?_
        refine x_region ?_
        refine xo_rn rfl (rn_build (pv := []) (zs := [_, _, _]) (cs := [_, _, _]) tpl24 tz24 rfl rfl rfl) ?_
        refine xo_store (q := 0) (vs := [_, _, _]) (cs' := [_, _, _]) (μ' := [_, _]) tk24 rfl rfl rfl rfl rfl rfl rfl rfl rfl ?_
        refine xo_rn rfl (rn_assign rfl) ?_
        refine xo_nil (kseq_normal ?_)
        refine x_ret (kseq_ret ?_)
        refine ⟨rfl, [_, _], .cons (.cell (q := 0) (v := .agg #[_, _, _]) rfl rfl tk24 rfl) (.cons (.tmp rfl) (.nil)), fin_drop (μ' := []) (List.nil_sublist _) (fin_done (ret_tup2 ?_))⟩
        simp only [InstF, hc11, if_true, ← hby, byRight, if_neg (show ¬ grownF (.mk k nn ls) bys ≤ 64 by omega)]
        rfl
      · have hc29b := hc29
        try rw [Bool.not_eq_true'] at hc29
        try rw [Bool.not_eq_false'] at hc29
        try rw [decide_eq_true_eq] at hc29
        try rw [decide_eq_false_iff_not] at hc29
        try rw [Int.not_lt] at hc29
        try rw [Int.not_le] at hc29
        refine x_skip (kseq_normal ?_)
        refine x_seq ?_
        refine x_region ?_
        refine xo_rl rfl (rl_own (q := 1) (v := .agg #[_, _, _]) tk24 rfl rfl rfl) ?_
        refine xo_rn rfl (rn_move rfl) ?_
        refine xo_call0 rfl cl41 (vs := [_, _]) rfl (rinst_spec _ _ _ _ _ hl0 hb0 (right_all hc11)) (fun v33 m33 _ hle33 hq33 => ?_)
        obtain ⟨c2, rfl, hc2⟩ := hq33
        have hc2' := hc2
        obtain ⟨k3, n3, l3, a3, cap3, heq, rfl, -, -, -, -⟩ := hc2'.open
        refine xo_store (q := 0) (vs := [_, _, _]) (cs' := [_, _, _]) (μ' := [_, _]) tk24 rfl rfl rfl rfl rfl rfl rfl rfl rfl ?_
        refine xo_rn rfl (rn_assign rfl) ?_
        refine xo_nil (kseq_normal ?_)
        refine x_ret ?_
        refine ⟨rfl, [_, _], .cons (.cell (q := 0) (v := .agg #[_, _, _]) rfl rfl tk24 rfl) (.cons (.tmp rfl) (.nil)), fin_drop (μ' := []) (List.nil_sublist _) (fin_done (ret_tup2 ?_))⟩
        simp only [InstF, hc11, if_true, ← hby, byRight, if_pos (show grownF (.mk k nn ls) bys ≤ 64 by omega)]
        exact ⟨_, rfl, hc2⟩

end Go.Proofs.Ytagilgmgacpffaa

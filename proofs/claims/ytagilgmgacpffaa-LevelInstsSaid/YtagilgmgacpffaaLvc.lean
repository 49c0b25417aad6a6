/-
  Contracts of the counting functions of package level.
-/
import Derived.Test.YtagilgmgacpffaaLv
import Derived.Test.YtagilgmgacpffaaTab
namespace Go.Proofs.Ytagilgmgacpffaa
open Go Go.Gw

theorem count_spec (l : Lv) : ∀ (m : Mem) (cs : List Value) (p : Nat) (left : Int), LvV m l cs → 0 ≤ left → left ≤ 1000000 →
    Cspec Try.prog 37 #[.agg cs.toArray, .pointer (some ⟨p, 0, none⟩)] m [bx p 3 [.int .i64 left]] (Ret fun _ m' μ' => μ' = [bx p 3 [.int .i64 (countF l left)]] ∧ m' = m)
   := by
  induction l using Lv.ind with
  | _ k nn ls ih =>
    intro m cs p left hl h0 h1
    refine Cspec.forget (Q := fun _ μ' => μ' = [bx p 3 [.int .i64 (countF (.mk k nn ls) left)]]) ?_
    simp only [LvV] at hl
    obtain ⟨hk, hn, a, cap, rfl, hlen, hargs⟩ := hl
    refine spec_body (vs := [_, _]) Try.func37 rfl Try.ntmps37 rfl (fun E => ?_)
    refine x_seq ?_
    refine x_region ?_
    refine xo_box rfl rfl (cs := [_, _, _]) rfl (fun b2 => ?_)
    refine xo_nil (kseq_normal ?_)
    refine x_seq ?_
    refine x_region ?_
    refine xo_rn rfl (rn_move rfl) ?_
    refine xo_rn rfl (rn_nilCheck rfl) ?_
    refine xo_rl rfl (rl_own (q := 1) tk3 rfl rfl rfl) ?_
    refine xo_rn rfl (by first | exact rn_subN rfl rfl (by unfold i64; omega) | exact rn_sub rfl rfl) ?_
    refine xo_rn rfl (rn_nilCheck rfl) ?_
    refine xo_store (q := 1) (vs := [_]) (cs' := [_]) (μ' := [_, _]) tk3 rfl rfl rfl rfl rfl rfl rfl rfl rfl ?_
    refine xo_nil (kseq_normal ?_)
    refine x_seq ?_
    refine x_region ?_
    refine xo_rn rfl (rn_fieldAddr tf24_2 rfl) ?_
    refine xo_rl rfl (rl_own (q := 0) tk22 rfl rfl rfl) ?_
    refine xo_rn rfl (rn_len_slice tsl22 rfl) ?_
    refine xo_rn rfl (rn_move rfl) ?_
    refine xo_nil (kseq_normal ?_)
    refine x_block ?_
    refine x_loop (G := Nat × Int) (fun g => [(14, .int .i64 (g.1 : Int)), (13, .int .i64 (ls.length : Int)), (12, .slice a ls.length cap), (1, .pointer (some ⟨p, 0, none⟩))])
      (fun g => [bx p 3 [.int .i64 g.2]]) (fun g m' => g.1 ≤ ls.length ∧ -1 ≤ g.2 ∧ g.2 ≤ 1000000 ∧ countFs (ls.drop g.1) g.2 = countFs ls (left - 1)) (fun g => ls.length - g.1) (0, left - 1)
      ⟨by simp, by simp; omega, by simp; omega, by simp⟩ ⟨rfl, rfl, rfl, rfl, trivial⟩ (.cons _ (.refl _)) ?_
    rintro ⟨i, lf⟩ m' ⟨hi, hlf0, hlf1, hcount⟩ hle
    dsimp only at hi hlf0 hlf1 hcount ⊢
    refine x_seq ?_
    refine x_region ?_
    refine xo_rn rfl (rn_lss rfl rfl) ?_
    refine xo_nil (kseq_normal ?_)
    refine x_seq ?_
    refine x_cond rfl (fun hc15 => ?_) (fun hc15 => ?_)
    · have hc15b := hc15
      try rw [Bool.not_eq_true'] at hc15
      try rw [Bool.not_eq_false'] at hc15
      try rw [decide_eq_true_eq] at hc15
      try rw [decide_eq_false_iff_not] at hc15
      try rw [Int.not_lt] at hc15
      try rw [Int.not_le] at hc15
      refine x_skip (kseq_normal ?_)
      refine x_seq ?_
      refine x_block ?_
      refine x_seq ?_
      refine x_region ?_
      have hi' : i < ls.length := by omega
      obtain ⟨b, off, rfl, hb⟩ := hargs.resolve_left (fun e => by simp [e] at hi')
      obtain ⟨lc, hlc⟩ : ∃ lc, ls[i]? = some lc := ⟨_, List.getElem?_eq_getElem hi'⟩
      obtain ⟨cc, hrd, hlv⟩ := LvsV.at (hb.mono hle) hlc
      have hlv' := hlv
      obtain ⟨k1, n1, as1⟩ := lc
      simp only [LvV] at hlv'
      obtain ⟨hk1, hn1, a1, cap1, rfl, hlen1, hargs1⟩ := hlv'
      refine xo_rn rfl (rn_indexAddr (q := i) tsl22 rfl rfl rfl hi') ?_
      refine xo_rl rfl (rl_memN tk24 rfl (hrd) rfl) ?_
      refine xo_alloc rfl tz24 (cs := [_, _, _]) rfl (fun b5 => ?_)
      refine xo_store (q := 0) (vs := [_, _, _]) (cs' := [_, _, _]) (μ' := [_, _]) tk24 rfl rfl rfl rfl rfl rfl rfl rfl rfl ?_
      refine xo_nil (kseq_normal ?_)
      refine x_seq ?_
      refine x_seq ?_
      refine x_region ?_
      refine xo_rn rfl (rn_move rfl) ?_
      refine xo_rn rfl (rn_nilCheck rfl) ?_
      refine xo_rl rfl (rl_own (q := 1) tk3 rfl rfl rfl) ?_
      refine xo_rn rfl (rn_lss rfl rfl) ?_
      refine xo_nil (kseq_normal ?_)
      refine x_cond rfl (fun hc21 => ?_) (fun hc21 => ?_)
      · have hc21b := hc21
        try rw [Bool.not_eq_true'] at hc21
        try rw [Bool.not_eq_false'] at hc21
        try rw [decide_eq_true_eq] at hc21
        try rw [decide_eq_false_iff_not] at hc21
        try rw [Int.not_lt] at hc21
        try rw [Int.not_le] at hc21
        refine x_ret (kseq_ret (kblock_ret (kseq_ret (kloop_ret (kblock_ret ?_)))))
        refine ⟨rfl, [], .nil, fin_drop (μ' := [_]) (.cons _ (.refl _)) (fin_done ?_)⟩
        show _ = _
        rw [countF, ← hcount, countFs_neg _ _ (by omega)]
      · have hc21b := hc21
        try rw [Bool.not_eq_true'] at hc21
        try rw [Bool.not_eq_false'] at hc21
        try rw [decide_eq_true_eq] at hc21
        try rw [decide_eq_false_iff_not] at hc21
        try rw [Int.not_lt] at hc21
        try rw [Int.not_le] at hc21
        refine x_skip (kseq_normal ?_)
        refine x_region ?_
        refine xo_rl rfl (rl_own (q := 0) (v := .agg #[_, _, _]) tk24 rfl rfl rfl) ?_
        refine xo_rn rfl (rn_move rfl) ?_
        refine xo_call (μ1 := [_]) (μ2 := [_]) rfl cl37 (vs := [_, _]) rfl (ih _ (List.mem_of_getElem? hlc) _ _ _ _ hlv (by omega) (by omega)) (perm_get (q := 1) rfl) (fun v24 m24 μ24 hle24 hq24 => ?_)
        obtain ⟨rfl, rfl⟩ := hq24
        refine xo_nil (kblock_normal (kseq_normal ?_))
        refine x_region ?_
        refine xo_rn rfl (by first | exact rn_addN rfl rfl (by unfold i64; omega) | exact rn_add rfl rfl) ?_
        refine xo_rn rfl (rn_move rfl) ?_
        refine xo_nil (kloop_normal ?_)
        have hcg := countF_ge (.mk k1 n1 as1) lf (by omega)
        refine ⟨(i + 1, countF (.mk k1 n1 as1) lf), by dsimp only; omega, ⟨hi', by dsimp only; omega, by dsimp only; omega, ?_⟩, ⟨rfl, rfl, rfl, rfl, trivial⟩, .cons_cons _ (.cons _ (.refl _)), rfl, hle⟩
        rw [← hcount, drop_at hlc, countFs, if_neg (by omega)]
    · have hc15b := hc15
      try rw [Bool.not_eq_true'] at hc15
      try rw [Bool.not_eq_false'] at hc15
      try rw [decide_eq_true_eq] at hc15
      try rw [decide_eq_false_iff_not] at hc15
      try rw [Int.not_lt] at hc15
      try rw [Int.not_le] at hc15
      refine x_exit (kseq_exit (kloop_exit (kblock_exit_here ?_)))
      refine ⟨rfl, [], .nil, fin_done ?_⟩
      show _ = _
      obtain rfl : i = ls.length := by omega
      rw [List.drop_length, countFs] at hcount
      rw [countF, ← hcount]

theorem wide_spec (k : Int) (m : Mem) : Scal Try.prog 50 #[.int .i64 k] m (.int .i64 (wideF k)) := by
  refine scal_of ?_
  refine spec_body (vs := [_]) Try.func50 rfl Try.ntmps50 rfl (fun E => ?_)
  refine x_seq ?_
  refine x_region ?_
  refine xo_rn rfl (rn_assign rfl) ?_
  refine xo_nil (kseq_normal ?_)
  refine x_seq ?_
  refine x_seq ?_
  refine x_region ?_
  refine xo_rn rfl (rn_move rfl) ?_
  refine xo_nil (kseq_normal ?_)
  refine x_block ?_
  refine x_seq ?_
  refine x_seq ?_
  refine x_region ?_
  refine xo_rn rfl (rn_eql rfl rfl) ?_
  refine xo_rn rfl (rn_assign rfl) ?_
  refine xo_nil (kseq_normal ?_)
  refine x_cond rfl (fun hc4 => ?_) (fun hc4 => ?_)
  · have hc4b := hc4
    try rw [Bool.not_eq_true'] at hc4
    try rw [Bool.not_eq_false'] at hc4
    try rw [decide_eq_true_eq] at hc4
    try rw [decide_eq_false_iff_not] at hc4
    try rw [Int.not_lt] at hc4
    try rw [Int.not_le] at hc4
    refine x_skip (kseq_normal ?_)
    refine x_cond_yes rfl hc4b ?_
    refine x_seq ?_
    refine x_region ?_
    refine xo_rn rfl (rn_assign rfl) ?_
    refine xo_nil (kseq_normal ?_)
    refine x_ret (kblock_ret (kseq_ret ?_))
    refine ⟨rfl, [_], .cons (.tmp rfl) (.nil), fin_done (ret_tup1 ?_)⟩
    simp [wideF, *]
  · have hc4b := hc4
    try rw [Bool.not_eq_true'] at hc4
    try rw [Bool.not_eq_false'] at hc4
    try rw [decide_eq_true_eq] at hc4
    try rw [decide_eq_false_iff_not] at hc4
    try rw [Int.not_lt] at hc4
    try rw [Int.not_le] at hc4
    refine x_region ?_
    refine xo_rn rfl (rn_eql rfl rfl) ?_
    refine xo_rn rfl (rn_assign rfl) ?_
    refine xo_nil (kseq_normal ?_)
    refine x_cond rfl (fun hc4_2 => ?_) (fun hc4_2 => ?_)
    · have hc4_2b := hc4_2
      try rw [Bool.not_eq_true'] at hc4_2
      try rw [Bool.not_eq_false'] at hc4_2
      try rw [decide_eq_true_eq] at hc4_2
      try rw [decide_eq_false_iff_not] at hc4_2
      try rw [Int.not_lt] at hc4_2
      try rw [Int.not_le] at hc4_2
      refine x_seq ?_
      refine x_region ?_
      refine xo_rn rfl (rn_assign rfl) ?_
      refine xo_nil (kseq_normal ?_)
      refine x_ret (kblock_ret (kseq_ret ?_))
      refine ⟨rfl, [_], .cons (.tmp rfl) (.nil), fin_done (ret_tup1 ?_)⟩
      simp [wideF, *]
    · have hc4_2b := hc4_2
      try rw [Bool.not_eq_true'] at hc4_2
      try rw [Bool.not_eq_false'] at hc4_2
      try rw [decide_eq_true_eq] at hc4_2
      try rw [decide_eq_false_iff_not] at hc4_2
      try rw [Int.not_lt] at hc4_2
      try rw [Int.not_le] at hc4_2
      refine x_seq ?_
      refine x_region ?_
      refine xo_rn rfl (rn_eql rfl rfl) ?_
      refine xo_rn rfl (rn_assign rfl) ?_
      refine xo_nil (kseq_normal ?_)
      refine x_cond rfl (fun hc7 => ?_) (fun hc7 => ?_)
      · have hc7b := hc7
        try rw [Bool.not_eq_true'] at hc7
        try rw [Bool.not_eq_false'] at hc7
        try rw [decide_eq_true_eq] at hc7
        try rw [decide_eq_false_iff_not] at hc7
        try rw [Int.not_lt] at hc7
        try rw [Int.not_le] at hc7
        refine x_seq ?_
        refine x_region ?_
        refine xo_rn rfl (rn_assign rfl) ?_
        refine xo_nil (kseq_normal ?_)
        refine x_ret (kblock_ret (kseq_ret ?_))
        refine ⟨rfl, [_], .cons (.tmp rfl) (.nil), fin_done (ret_tup1 ?_)⟩
        simp [wideF, *]
      · have hc7b := hc7
        try rw [Bool.not_eq_true'] at hc7
        try rw [Bool.not_eq_false'] at hc7
        try rw [decide_eq_true_eq] at hc7
        try rw [decide_eq_false_iff_not] at hc7
        try rw [Int.not_lt] at hc7
        try rw [Int.not_le] at hc7
        refine x_seq ?_
        refine x_seq ?_
        refine x_region ?_
        refine xo_rn rfl (rn_eql rfl rfl) ?_
        refine xo_rn rfl (rn_assign rfl) ?_
        refine xo_nil (kseq_normal ?_)
        refine x_cond rfl (fun hc9 => ?_) (fun hc9 => ?_)
        · have hc9b := hc9
          try rw [Bool.not_eq_true'] at hc9
          try rw [Bool.not_eq_false'] at hc9
          try rw [decide_eq_true_eq] at hc9
          try rw [decide_eq_false_iff_not] at hc9
          try rw [Int.not_lt] at hc9
          try rw [Int.not_le] at hc9
          refine x_skip (kseq_normal ?_)
          refine x_cond_yes rfl hc9b ?_
          refine x_seq ?_
          refine x_region ?_
          refine xo_rn rfl (rn_assign rfl) ?_
          refine xo_nil (kseq_normal ?_)
          refine x_ret (kblock_ret (kseq_ret ?_))
          refine ⟨rfl, [_], .cons (.tmp rfl) (.nil), fin_done (ret_tup1 ?_)⟩
          simp [wideF, *]
        · have hc9b := hc9
          try rw [Bool.not_eq_true'] at hc9
          try rw [Bool.not_eq_false'] at hc9
          try rw [decide_eq_true_eq] at hc9
          try rw [decide_eq_false_iff_not] at hc9
          try rw [Int.not_lt] at hc9
          try rw [Int.not_le] at hc9
          refine x_region ?_
          refine xo_rn rfl (rn_eql rfl rfl) ?_
          refine xo_rn rfl (rn_assign rfl) ?_
          refine xo_nil (kseq_normal ?_)
          refine x_cond rfl (fun hc9_2 => ?_) (fun hc9_2 => ?_)
          · have hc9_2b := hc9_2
            try rw [Bool.not_eq_true'] at hc9_2
            try rw [Bool.not_eq_false'] at hc9_2
            try rw [decide_eq_true_eq] at hc9_2
            try rw [decide_eq_false_iff_not] at hc9_2
            try rw [Int.not_lt] at hc9_2
            try rw [Int.not_le] at hc9_2
            refine x_seq ?_
            refine x_region ?_
            refine xo_rn rfl (rn_assign rfl) ?_
            refine xo_nil (kseq_normal ?_)
            refine x_ret (kblock_ret (kseq_ret ?_))
            refine ⟨rfl, [_], .cons (.tmp rfl) (.nil), fin_done (ret_tup1 ?_)⟩
            simp [wideF, *]
          · have hc9_2b := hc9_2
            try rw [Bool.not_eq_true'] at hc9_2
            try rw [Bool.not_eq_false'] at hc9_2
            try rw [decide_eq_true_eq] at hc9_2
            try rw [decide_eq_false_iff_not] at hc9_2
            try rw [Int.not_lt] at hc9_2
            try rw [Int.not_le] at hc9_2
            refine x_skip (kblock_normal (kseq_normal ?_))
            refine x_seq ?_
            refine x_region ?_
            refine xo_rn rfl (rn_assign rfl) ?_
            refine xo_nil (kseq_normal ?_)
            refine x_ret ?_
            refine ⟨rfl, [_], .cons (.tmp rfl) (.nil), fin_done (ret_tup1 ?_)⟩
            simp [wideF, *]

theorem Nodes_spec (l : Lv) (m : Mem) (cs : List Value) (hl : LvV m l cs) : Scal Try.prog 21 #[.agg cs.toArray] m (.int .i64 (nodesF l)) := by
  refine scal_of ?_
  have hl0 := hl
  obtain ⟨k, nn, ls, a, cap, rfl, rfl, hk, hn, hlen, hat⟩ := hl.open
  have hcg := countF_ge (.mk k nn ls) 64 (by omega)
  refine spec_body (vs := [_]) Try.func21 rfl Try.ntmps21 rfl (fun E => ?_)
  refine x_seq ?_
  refine x_region ?_
  refine xo_box rfl rfl (cs := [_, _, _]) rfl (fun b1 => ?_)
  refine xo_rn rfl (rn_assign rfl) ?_
  refine xo_nil (kseq_normal ?_)
  refine x_seq ?_
  refine x_region ?_
  refine xo_alloc rfl tz3 (cs := [_]) rfl (fun b3 => ?_)
  refine xo_store (q := 0) (vs := [_]) (cs' := [_]) (μ' := [_, _]) tk3 rfl rfl rfl rfl rfl rfl rfl rfl rfl ?_
  refine xo_nil (kseq_normal ?_)
  refine x_seq ?_
  refine x_region ?_
  refine xo_rl rfl (rl_own (q := 1) (v := .agg #[_, _, _]) tk24 rfl rfl rfl) ?_
  refine xo_call (μ1 := [_]) (μ2 := [_]) rfl cl37 (vs := [_, _]) rfl (count_spec _ _ _ _ _ hl0 (by omega) (by omega)) (.refl _) (fun v5 m5 μ5 hle5 hq5 => ?_)
  obtain ⟨rfl, rfl⟩ := hq5
  refine xo_nil (kseq_normal ?_)
  refine x_seq ?_
  refine x_region ?_
  refine xo_rl rfl (rl_own (q := 0) tk3 rfl rfl rfl) ?_
  refine xo_rn rfl (rn_max rfl rfl) ?_
  refine xo_rn rfl (by first | exact rn_subN rfl rfl (by unfold i64; omega) | exact rn_sub rfl rfl) ?_
  refine xo_rn rfl (rn_assign rfl) ?_
  refine xo_nil (kseq_normal ?_)
  refine x_ret ?_
  refine ⟨rfl, [_], .cons (.tmp rfl) (.nil), fin_drop (μ' := []) (List.nil_sublist _) (fin_done (ret_tup1 ?_))⟩
  rfl

theorem node_spec (l : Lv) (p : Int) (m : Mem) (cs : List Value) (hl : LvV m l cs) : Scal Try.prog 44 #[.agg cs.toArray, .int .i64 p] m (.bool (nodeF l p)) := by
  refine scal_of ?_
  obtain ⟨k, nn, ls, a, cap, rfl, rfl, hk, hn, hlen, hat⟩ := hl.open
  refine spec_body (vs := [_, _]) Try.func44 rfl Try.ntmps44 rfl (fun E => ?_)
  refine x_seq ?_
  refine x_region ?_
  refine xo_box rfl rfl (cs := [_, _, _]) rfl (fun b2 => ?_)
  refine xo_rn rfl (rn_assign rfl) ?_
  refine xo_nil (kseq_normal ?_)
  refine x_seq ?_
  refine x_seq ?_
  refine x_env (ρ' := [(1, _), (2, _), (4, _)]) ⟨rfl, rfl, rfl, trivial⟩ ?_
  refine x_region_draw (by kernel_rfl) ?_
  refine xa_p (by kernel_rfl) 0 5 [2] rfl rfl rfl rfl rfl rfl rfl (pv_none (rn_fieldAddr tf24_2 rfl)) ?_
  refine xa_l (by kernel_rfl) 1 6 [5] rfl rfl rfl rfl rfl rfl rfl (pvl_none (rl_own (q := 0) tk22 rfl rfl rfl)) ?_
  refine xa_p (by kernel_rfl) 2 7 [6] rfl rfl rfl rfl rfl rfl rfl (pv_none (rn_len_slice tsl22 rfl)) ?_
  refine xa_p (by kernel_rfl) 3 8 [2] rfl rfl rfl rfl rfl rfl rfl (pv_none (rn_fieldAddr tf24_0 rfl)) ?_
  refine xa_l (by kernel_rfl) 4 9 [8] rfl rfl rfl rfl rfl rfl rfl (pvl_none (rl_own (q := 0) tk3 rfl rfl rfl)) ?_
  refine xa_effect (by kernel_rfl) 5 rfl rfl (by kernel_rfl) [4, 3] (by kernel_rfl) rfl (pp' := [_, _]) (pl' := [_]) (hid := [7, 5, 6]) rfl rfl rfl ?_
  refine xo_callS rfl cl50 (vs := [_]) rfl (wide_spec _ _) ?_
  refine xo_nil ⟨⟨_, rfl⟩, List.forall_mem_cons.2 ⟨pvl_none (rl_own (q := 0) tk22 rfl rfl rfl), fun _ hp => (by cases hp)⟩, ?_⟩
  refine xa_env (ρ' := [(7, _), (5, _), (6, _), (10, _), (9, _), (8, _), (1, _), (2, _), (4, _)]) rfl ?_
  refine xa_p (by kernel_rfl) 6 11 [7, 10] rfl rfl rfl rfl rfl rfl rfl (pv_none (rn_neq rfl rfl)) ?_
  refine xa_end (by kernel_rfl) rfl (kseq_normal ?_)
  refine x_cond rfl (fun hc11 => ?_) (fun hc11 => ?_)
  · have hc11b := hc11
    try rw [Bool.not_eq_true'] at hc11
    try rw [Bool.not_eq_false'] at hc11
    try rw [decide_eq_true_eq] at hc11
    try rw [decide_eq_false_iff_not] at hc11
    try rw [Int.not_lt] at hc11
    try rw [Int.not_le] at hc11
    refine x_seq ?_
    refine x_region ?_
    refine xo_rn rfl (rn_assign rfl) ?_
    refine xo_nil (kseq_normal ?_)
    refine x_ret (kseq_ret ?_)
    refine ⟨rfl, [_], .cons (.tmp rfl) (.nil), fin_drop (μ' := []) (List.nil_sublist _) (fin_done (ret_tup1 ?_))⟩
    simp [nodeF, hc11]
  · have hc11b := hc11
    try rw [Bool.not_eq_true'] at hc11
    try rw [Bool.not_eq_false'] at hc11
    try rw [decide_eq_true_eq] at hc11
    try rw [decide_eq_false_iff_not] at hc11
    try rw [Int.not_lt] at hc11
    try rw [Int.not_le] at hc11
    refine x_skip (kseq_normal ?_)
    refine x_seq ?_
    refine x_seq ?_
    refine x_region ?_
    refine xo_rn rfl (rn_fieldAddr tf24_0 rfl) ?_
    refine xo_rl rfl (rl_own (q := 0) tk3 rfl rfl rfl) ?_
    refine xo_nil (kseq_normal ?_)
    refine x_block ?_
    refine x_seq ?_
    refine x_region ?_
    refine xo_rn rfl (rn_eql rfl rfl) ?_
    refine xo_rn rfl (rn_assign rfl) ?_
    refine xo_nil (kseq_normal ?_)
    refine x_cond rfl (fun hc14 => ?_) (fun hc14 => ?_)
    · have hc14b := hc14
      try rw [Bool.not_eq_true'] at hc14
      try rw [Bool.not_eq_false'] at hc14
      try rw [decide_eq_true_eq] at hc14
      try rw [decide_eq_false_iff_not] at hc14
      try rw [Int.not_lt] at hc14
      try rw [Int.not_le] at hc14
      refine x_seq ?_
      refine x_region ?_
      refine xo_rn rfl (rn_fieldAddr tf24_1 rfl) ?_
      refine xo_rl rfl (rl_own (q := 0) tk3 rfl rfl rfl) ?_
      refine xo_rn rfl (rn_geq rfl rfl) ?_
      refine xo_rn rfl (rn_move rfl) ?_
      refine xo_guard rfl rfl (fun hg19 => ?_) (fun hg19 => ?_) rfl
      · have hg19_p := hg19
        try rw [Bool.not_eq_true'] at hg19_p
        try rw [Bool.not_eq_false'] at hg19_p
        try rw [decide_eq_true_eq] at hg19_p
        try rw [decide_eq_false_iff_not] at hg19_p
        try rw [Int.not_lt] at hg19_p
        try rw [Int.not_le] at hg19_p
        refine xo_rn rfl (rn_fieldAddr tf24_1 rfl) ?_
        refine xo_guard_yes rfl rfl hg19 ?_ rfl
        refine xo_rl rfl (rl_own (q := 0) tk3 rfl rfl rfl) ?_
        refine xo_guard_yes rfl rfl hg19 ?_ rfl
        refine xo_rn rfl (rn_leq rfl rfl) ?_
        refine xo_rn rfl (rn_pick_t rfl hg19 rfl) ?_
        refine xo_rn rfl (rn_assign rfl) ?_
        refine xo_nil (kseq_normal ?_)
        refine x_ret (kblock_ret (kseq_ret ?_))
        refine ⟨rfl, [_], .cons (.tmp rfl) (.nil), fin_drop (μ' := []) (List.nil_sublist _) (fin_done (ret_tup1 ?_))⟩
        simp [nodeF, hc11, hc14, hg19_p]
      · replace hg19 := ne_t hg19
        have hg19_p := hg19
        try rw [Bool.not_eq_true'] at hg19_p
        try rw [Bool.not_eq_false'] at hg19_p
        try rw [decide_eq_true_eq] at hg19_p
        try rw [decide_eq_false_iff_not] at hg19_p
        try rw [Int.not_lt] at hg19_p
        try rw [Int.not_le] at hg19_p
        dsimp only [putU]
        refine xo_guard_no rfl rfl (by rw [hg19]; decide) rfl ?_
        refine xo_guard_no rfl rfl (by rw [hg19]; decide) rfl ?_
        refine xo_rn rfl (rn_pick_f rfl hg19 rfl) ?_
        refine xo_rn rfl (rn_assign rfl) ?_
        refine xo_nil (kseq_normal ?_)
        refine x_ret (kblock_ret (kseq_ret ?_))
        refine ⟨rfl, [_], .cons (.tmp rfl) (.nil), fin_drop (μ' := []) (List.nil_sublist _) (fin_done (ret_tup1 ?_))⟩
        simp [nodeF, hc11, hc14]; omega
    · have hc14b := hc14
      try rw [Bool.not_eq_true'] at hc14
      try rw [Bool.not_eq_false'] at hc14
      try rw [decide_eq_true_eq] at hc14
      try rw [decide_eq_false_iff_not] at hc14
      try rw [Int.not_lt] at hc14
      try rw [Int.not_le] at hc14
      refine x_seq ?_
      refine x_region ?_
      refine xo_rn rfl (rn_eql rfl rfl) ?_
      refine xo_rn rfl (rn_assign rfl) ?_
      refine xo_nil (kseq_normal ?_)
      refine x_cond rfl (fun hc24 => ?_) (fun hc24 => ?_)
      · have hc24b := hc24
        try rw [Bool.not_eq_true'] at hc24
        try rw [Bool.not_eq_false'] at hc24
        try rw [decide_eq_true_eq] at hc24
        try rw [decide_eq_false_iff_not] at hc24
        try rw [Int.not_lt] at hc24
        try rw [Int.not_le] at hc24
        refine x_seq ?_
        refine x_region ?_
        refine xo_rn rfl (rn_fieldAddr tf24_1 rfl) ?_
        refine xo_rl rfl (rl_own (q := 0) tk3 rfl rfl rfl) ?_
        refine xo_rn rfl (rn_geq rfl rfl) ?_
        refine xo_rn rfl (rn_move rfl) ?_
        refine xo_guard rfl rfl (fun hg29 => ?_) (fun hg29 => ?_) rfl
        · have hg29_p := hg29
          try rw [Bool.not_eq_true'] at hg29_p
          try rw [Bool.not_eq_false'] at hg29_p
          try rw [decide_eq_true_eq] at hg29_p
          try rw [decide_eq_false_iff_not] at hg29_p
          try rw [Int.not_lt] at hg29_p
          try rw [Int.not_le] at hg29_p
          refine xo_rn rfl (rn_fieldAddr tf24_1 rfl) ?_
          refine xo_guard_yes rfl rfl hg29 ?_ rfl
          refine xo_rl rfl (rl_own (q := 0) tk3 rfl rfl rfl) ?_
          refine xo_guard_yes rfl rfl hg29 ?_ rfl
          refine xo_rn rfl (rn_move rfl) ?_
          refine xo_guard_yes rfl rfl hg29 ?_ rfl
          refine xo_rn rfl (rn_lss rfl rfl) ?_
          refine xo_rn rfl (rn_pick_t rfl hg29 rfl) ?_
          refine xo_rn rfl (rn_assign rfl) ?_
          refine xo_nil (kseq_normal ?_)
          refine x_ret (kblock_ret (kseq_ret ?_))
          refine ⟨rfl, [_], .cons (.tmp rfl) (.nil), fin_drop (μ' := []) (List.nil_sublist _) (fin_done (ret_tup1 ?_))⟩
          simp [nodeF, hc11, hc14, hc24, hg29_p]
        · replace hg29 := ne_t hg29
          have hg29_p := hg29
          try rw [Bool.not_eq_true'] at hg29_p
          try rw [Bool.not_eq_false'] at hg29_p
          try rw [decide_eq_true_eq] at hg29_p
          try rw [decide_eq_false_iff_not] at hg29_p
          try rw [Int.not_lt] at hg29_p
          try rw [Int.not_le] at hg29_p
          dsimp only [putU]
          refine xo_guard_no rfl rfl (by rw [hg29]; decide) rfl ?_
          refine xo_guard_no rfl rfl (by rw [hg29]; decide) rfl ?_
          refine xo_guard_no rfl rfl (by rw [hg29]; decide) rfl ?_
          refine xo_rn rfl (rn_pick_f rfl hg29 rfl) ?_
          refine xo_rn rfl (rn_assign rfl) ?_
          refine xo_nil (kseq_normal ?_)
          refine x_ret (kblock_ret (kseq_ret ?_))
          refine ⟨rfl, [_], .cons (.tmp rfl) (.nil), fin_drop (μ' := []) (List.nil_sublist _) (fin_done (ret_tup1 ?_))⟩
          simp [nodeF, hc11, hc14, hc24]; omega
      · have hc24b := hc24
        try rw [Bool.not_eq_true'] at hc24
        try rw [Bool.not_eq_false'] at hc24
        try rw [decide_eq_true_eq] at hc24
        try rw [decide_eq_false_iff_not] at hc24
        try rw [Int.not_lt] at hc24
        try rw [Int.not_le] at hc24
        refine x_skip (kblock_normal (kseq_normal ?_))
        refine x_seq ?_
        refine x_region ?_
        refine xo_rn rfl (rn_fieldAddr tf24_1 rfl) ?_
        refine xo_rl rfl (rl_own (q := 0) tk3 rfl rfl rfl) ?_
        refine xo_rn rfl (rn_eql rfl rfl) ?_
        refine xo_rn rfl (rn_assign rfl) ?_
        refine xo_nil (kseq_normal ?_)
        refine x_ret ?_
        refine ⟨rfl, [_], .cons (.tmp rfl) (.nil), fin_drop (μ' := []) (List.nil_sublist _) (fin_done (ret_tup1 ?_))⟩
        simp [nodeF, hc11, hc14, hc24]

theorem all_spec (l : Lv) : ∀ (p : Int) (m : Mem) (cs : List Value), LvV m l cs → Scal Try.prog 32 #[.agg cs.toArray, .int .i64 p] m (.bool (allF l p)) := by
  induction l using Lv.ind with
  | _ k nn ls ih =>
    intro p m cs hl
    refine scal_of ?_
    obtain ⟨_, _, _, a, cap, ⟨rfl, rfl, rfl⟩, rfl, hk, hn, hlen, hat⟩ := hl.open
    refine spec_body (vs := [_, _]) Try.func32 rfl Try.ntmps32 rfl (fun E => ?_)
    refine x_seq ?_
    refine x_region ?_
    refine xo_box rfl rfl (cs := [_, _, _]) rfl (fun b2 => ?_)
    refine xo_rn rfl (rn_assign rfl) ?_
    refine xo_nil (kseq_normal ?_)
    refine x_seq ?_
    refine x_seq ?_
    refine x_region ?_
    refine xo_rl rfl (rl_own (q := 0) (v := .agg #[_, _, _]) tk24 rfl rfl rfl) ?_
    refine xo_rn rfl (rn_move rfl) ?_
    refine xo_callS rfl cl44 (vs := [_, _]) rfl (node_spec _ _ _ _ hl) ?_
    refine xo_rn rfl (rn_not rfl) ?_
    refine xo_nil (kseq_normal ?_)
    refine x_cond rfl (fun hc10 => ?_) (fun hc10 => ?_)
    · have hc10b := hc10
      try rw [Bool.not_eq_true'] at hc10
      try rw [Bool.not_eq_false'] at hc10
      try rw [decide_eq_true_eq] at hc10
      try rw [decide_eq_false_iff_not] at hc10
      try rw [Int.not_lt] at hc10
      try rw [Int.not_le] at hc10
      refine x_seq ?_
      refine x_region ?_
      refine xo_rn rfl (rn_assign rfl) ?_
      refine xo_nil (kseq_normal ?_)
      refine x_ret (kseq_ret ?_)
      refine ⟨rfl, [_], .cons (.tmp rfl) (.nil), fin_drop (μ' := []) (List.nil_sublist _) (fin_done (ret_tup1 ?_))⟩
      simp [allF, hc10]
    · have hc10b := hc10
      try rw [Bool.not_eq_true'] at hc10
      try rw [Bool.not_eq_false'] at hc10
      try rw [decide_eq_true_eq] at hc10
      try rw [decide_eq_false_iff_not] at hc10
      try rw [Int.not_lt] at hc10
      try rw [Int.not_le] at hc10
      refine x_skip (kseq_normal ?_)
      refine x_seq ?_
      refine x_seq ?_
      refine x_region ?_
      refine xo_rn rfl (rn_fieldAddr tf24_2 rfl) ?_
      refine xo_rl rfl (rl_own (q := 0) tk22 rfl rfl rfl) ?_
      refine xo_rn rfl (rn_len_slice tsl22 rfl) ?_
      refine xo_rn rfl (rn_move rfl) ?_
      refine xo_nil (kseq_normal ?_)
      refine x_block ?_
      refine x_loop (G := Nat) (fun g => [(14, .int .i64 (g : Int)), (13, .int .i64 (ls.length : Int)), (12, .slice a ls.length cap), (1, .int .i64 p)])
        (fun g => []) (fun g m' => g ≤ ls.length ∧ allFs (ls.drop g) p = allFs ls p) (fun g => ls.length - g) 0
        ⟨by simp, by simp⟩ ⟨rfl, rfl, rfl, rfl, trivial⟩ (List.nil_sublist _) ?_
      rintro i m' ⟨hi, hall⟩ hle
      refine x_seq ?_
      refine x_region ?_
      refine xo_rn rfl (rn_lss rfl rfl) ?_
      refine xo_nil (kseq_normal ?_)
      refine x_seq ?_
      refine x_cond rfl (fun hc15 => ?_) (fun hc15 => ?_)
      · have hc15b := hc15
        try rw [Bool.not_eq_true'] at hc15
        try rw [Bool.not_eq_false'] at hc15
        try rw [decide_eq_true_eq] at hc15
        try rw [decide_eq_false_iff_not] at hc15
        try rw [Int.not_lt] at hc15
        try rw [Int.not_le] at hc15
        refine x_skip (kseq_normal ?_)
        refine x_seq ?_
        refine x_block ?_
        refine x_seq ?_
        refine x_region ?_
        have hi' : i < ls.length := by omega
        obtain ⟨lc, hlc⟩ : ∃ lc, ls[i]? = some lc := ⟨_, List.getElem?_eq_getElem hi'⟩
        obtain ⟨b, off, k1, n1, l1, a1, cap1, rfl, rfl, hrd, hlv⟩ := hat i lc hlc
        refine xo_rn rfl (rn_indexAddr (q := i) tsl22 rfl rfl rfl hi') ?_
        refine xo_rl rfl (rl_memN tk24 rfl (hrd.mono (by assumption)) rfl) ?_
        refine xo_alloc rfl tz24 (cs := [_, _, _]) rfl (fun b6 => ?_)
        refine xo_store (q := 0) (vs := [_, _, _]) (cs' := [_, _, _]) (μ' := [_]) tk24 rfl rfl rfl rfl rfl rfl rfl rfl rfl ?_
        refine xo_nil (kseq_normal ?_)
        refine x_seq ?_
        refine x_region ?_
        refine xo_rl rfl (rl_own (q := 0) (v := .agg #[_, _, _]) tk24 rfl rfl rfl) ?_
        refine xo_rn rfl (rn_move rfl) ?_
        refine xo_callS rfl cl32 (vs := [_, _]) rfl (ih _ (List.mem_of_getElem? hlc) _ _ _ (hlv.mono (by assumption))) ?_
        refine xo_rn rfl (rn_not rfl) ?_
        refine xo_nil (kseq_normal ?_)
        refine x_cond rfl (fun hc21 => ?_) (fun hc21 => ?_)
        · have hc21b := hc21
          try rw [Bool.not_eq_true'] at hc21
          try rw [Bool.not_eq_false'] at hc21
          try rw [decide_eq_true_eq] at hc21
          try rw [decide_eq_false_iff_not] at hc21
          try rw [Int.not_lt] at hc21
          try rw [Int.not_le] at hc21
          refine x_seq ?_
          refine x_region ?_
          refine xo_rn rfl (rn_assign rfl) ?_
          refine xo_nil (kseq_normal ?_)
          refine x_ret (kblock_ret (kseq_ret (kloop_ret (kblock_ret (kseq_ret ?_)))))
          refine ⟨rfl, [_], .cons (.tmp rfl) (.nil), fin_drop (μ' := []) (List.nil_sublist _) (fin_done (ret_tup1 ?_))⟩
          rw [drop_at hlc] at hall
          rw [allF, hc10, ← hall, allFs, hc21]
          rfl
        · have hc21b := hc21
          try rw [Bool.not_eq_true'] at hc21
          try rw [Bool.not_eq_false'] at hc21
          try rw [decide_eq_true_eq] at hc21
          try rw [decide_eq_false_iff_not] at hc21
          try rw [Int.not_lt] at hc21
          try rw [Int.not_le] at hc21
          refine x_skip (kblock_normal (kseq_normal ?_))
          refine x_region ?_
          refine xo_rn rfl (by first | exact rn_addN rfl rfl (by unfold i64; omega) | exact rn_add rfl rfl) ?_
          refine xo_rn rfl (rn_move rfl) ?_
          refine xo_nil (kloop_normal ?_)
          refine ⟨i + 1, by omega, ⟨hi', ?_⟩, ⟨rfl, rfl, rfl, rfl, trivial⟩, List.nil_sublist _, rfl, hle⟩
          rw [← hall, drop_at hlc]
          simp [allFs, hc21]
      · have hc15b := hc15
        try rw [Bool.not_eq_true'] at hc15
        try rw [Bool.not_eq_false'] at hc15
        try rw [decide_eq_true_eq] at hc15
        try rw [decide_eq_false_iff_not] at hc15
        try rw [Int.not_lt] at hc15
        try rw [Int.not_le] at hc15
        refine x_exit (kseq_exit (kloop_exit (kblock_exit_here (kseq_normal ?_))))
        refine x_seq ?_
        refine x_region ?_
        refine xo_rn rfl (rn_assign rfl) ?_
        refine xo_nil (kseq_normal ?_)
        refine x_ret ?_
        refine ⟨rfl, [_], .cons (.tmp rfl) (.nil), fin_done (ret_tup1 ?_)⟩
        obtain rfl : i = ls.length := by omega
        rw [allF, hc10, ← hall, List.drop_length]
        rfl

theorem Right_spec (l : Lv) (p : Int) (m : Mem) (cs : List Value) (hl : LvV m l cs) : Scal Try.prog 13 #[.agg cs.toArray, .int .i64 p] m (.bool (rightF l p)) := by
  refine scal_of ?_
  obtain ⟨k, nn, ls, a, cap, rfl, rfl, hk, hn, hlen, hat⟩ := hl.open
  refine spec_body (vs := [_, _]) Try.func13 rfl Try.ntmps13 rfl (fun E => ?_)
  refine x_seq ?_
  refine x_region ?_
  refine xo_box rfl rfl (cs := [_, _, _]) rfl (fun b2 => ?_)
  refine xo_rn rfl (rn_assign rfl) ?_
  refine xo_nil (kseq_normal ?_)
  refine x_seq ?_
  refine x_region ?_
  refine xo_rn rfl (rn_move rfl) ?_
  refine xo_rn rfl (rn_geq rfl rfl) ?_
  refine xo_rn rfl (rn_move rfl) ?_
  refine xo_guard rfl rfl (fun hg7 => ?_) (fun hg7 => ?_) rfl
  · have hg7_p := hg7
    try rw [Bool.not_eq_true'] at hg7_p
    try rw [Bool.not_eq_false'] at hg7_p
    try rw [decide_eq_true_eq] at hg7_p
    try rw [decide_eq_false_iff_not] at hg7_p
    try rw [Int.not_lt] at hg7_p
    try rw [Int.not_le] at hg7_p
    refine xo_rn rfl (rn_move rfl) ?_
    refine xo_guard_yes rfl rfl hg7 ?_ rfl
    refine xo_rn rfl (rn_leq rfl rfl) ?_
    refine xo_rn rfl (rn_pick_t rfl hg7 rfl) ?_
    refine xo_rn rfl (rn_move rfl) ?_
    refine xo_guard rfl rfl (fun hg11 => ?_) (fun hg11 => ?_) rfl
    · have hg11_p := hg11
      try rw [Bool.not_eq_true'] at hg11_p
      try rw [Bool.not_eq_false'] at hg11_p
      try rw [decide_eq_true_eq] at hg11_p
      try rw [decide_eq_false_iff_not] at hg11_p
      try rw [Int.not_lt] at hg11_p
      try rw [Int.not_le] at hg11_p
      refine xo_rl rfl (rl_own (q := 0) (v := .agg #[_, _, _]) tk24 rfl rfl rfl) ?_
      refine xo_guard_yes rfl rfl hg11 ?_ rfl
      refine xo_callS rfl cl21 (vs := [_]) rfl (Nodes_spec _ _ _ hl) ?_
      refine xo_guard_yes rfl rfl hg11 ?_ rfl
      refine xo_rn rfl (rn_leq rfl rfl) ?_
      refine xo_rn rfl (rn_pick_t rfl hg11 rfl) ?_
      refine xo_rn rfl (rn_move rfl) ?_
      refine xo_guard rfl rfl (fun hg16 => ?_) (fun hg16 => ?_) rfl
      · have hg16_p := hg16
        try rw [Bool.not_eq_true'] at hg16_p
        try rw [Bool.not_eq_false'] at hg16_p
        try rw [decide_eq_true_eq] at hg16_p
        try rw [decide_eq_false_iff_not] at hg16_p
        try rw [Int.not_lt] at hg16_p
        try rw [Int.not_le] at hg16_p
        refine xo_rl rfl (rl_own (q := 0) (v := .agg #[_, _, _]) tk24 rfl rfl rfl) ?_
        refine xo_guard_yes rfl rfl hg16 ?_ rfl
        refine xo_rn rfl (rn_move rfl) ?_
        refine xo_guard_yes rfl rfl hg16 ?_ rfl
        refine xo_callS rfl cl32 (vs := [_, _]) rfl (all_spec _ _ _ _ hl) ?_
        refine xo_rn rfl (rn_pick_t rfl hg16 rfl) ?_
        refine xo_rn rfl (rn_assign rfl) ?_
        refine xo_nil (kseq_normal ?_)
        refine x_ret ?_
        refine ⟨rfl, [_], .cons (.tmp rfl) (.nil), fin_drop (μ' := []) (List.nil_sublist _) (fin_done (ret_tup1 ?_))⟩
        simp [rightF, *]
      · replace hg16 := ne_t hg16
        have hg16_p := hg16
        try rw [Bool.not_eq_true'] at hg16_p
        try rw [Bool.not_eq_false'] at hg16_p
        try rw [decide_eq_true_eq] at hg16_p
        try rw [decide_eq_false_iff_not] at hg16_p
        try rw [Int.not_lt] at hg16_p
        try rw [Int.not_le] at hg16_p
        dsimp only [putU]
        refine xo_guard_no rfl rfl (by rw [hg16]; decide) rfl ?_
        refine xo_guard_no rfl rfl (by rw [hg16]; decide) rfl ?_
        refine xo_rn rfl (rn_pick_f rfl hg16 rfl) ?_
        refine xo_rn rfl (rn_assign rfl) ?_
        refine xo_nil (kseq_normal ?_)
        refine x_ret ?_
        refine ⟨rfl, [_], .cons (.tmp rfl) (.nil), fin_drop (μ' := []) (List.nil_sublist _) (fin_done (ret_tup1 ?_))⟩
        simp [rightF, *]
    · replace hg11 := ne_t hg11
      have hg11_p := hg11
      try rw [Bool.not_eq_true'] at hg11_p
      try rw [Bool.not_eq_false'] at hg11_p
      try rw [decide_eq_true_eq] at hg11_p
      try rw [decide_eq_false_iff_not] at hg11_p
      try rw [Int.not_lt] at hg11_p
      try rw [Int.not_le] at hg11_p
      dsimp only [putU]
      refine xo_guard_no rfl rfl (by rw [hg11]; decide) rfl ?_
      refine xo_guard_no rfl rfl (by rw [hg11]; decide) rfl ?_
      refine xo_rn rfl (rn_pick_f rfl hg11 rfl) ?_
      refine xo_rn rfl (rn_move rfl) ?_
      refine xo_guard_no rfl rfl (by decide) rfl ?_
      refine xo_guard_no rfl rfl (by decide) rfl ?_
      refine xo_guard_no rfl rfl (by decide) rfl ?_
      refine xo_rn rfl (rn_pick_f rfl rfl rfl) ?_
      refine xo_rn rfl (rn_assign rfl) ?_
      refine xo_nil (kseq_normal ?_)
      refine x_ret ?_
      refine ⟨rfl, [_], .cons (.tmp rfl) (.nil), fin_drop (μ' := []) (List.nil_sublist _) (fin_done (ret_tup1 ?_))⟩
      simp [rightF, *]
  · replace hg7 := ne_t hg7
    have hg7_p := hg7
    try rw [Bool.not_eq_true'] at hg7_p
    try rw [Bool.not_eq_false'] at hg7_p
    try rw [decide_eq_true_eq] at hg7_p
    try rw [decide_eq_false_iff_not] at hg7_p
    try rw [Int.not_lt] at hg7_p
    try rw [Int.not_le] at hg7_p
    dsimp only [putU]
    refine xo_guard_no rfl rfl (by rw [hg7]; decide) rfl ?_
    refine xo_rn rfl (rn_pick_f rfl hg7 rfl) ?_
    refine xo_rn rfl (rn_move rfl) ?_
    refine xo_guard_no rfl rfl (by decide) rfl ?_
    refine xo_guard_no rfl rfl (by decide) rfl ?_
    refine xo_guard_no rfl rfl (by decide) rfl ?_
    refine xo_rn rfl (rn_pick_f rfl rfl rfl) ?_
    refine xo_rn rfl (rn_move rfl) ?_
    refine xo_guard_no rfl rfl (by decide) rfl ?_
    refine xo_guard_no rfl rfl (by decide) rfl ?_
    refine xo_guard_no rfl rfl (by decide) rfl ?_
    refine xo_rn rfl (rn_pick_f rfl rfl rfl) ?_
    refine xo_rn rfl (rn_assign rfl) ?_
    refine xo_nil (kseq_normal ?_)
    refine x_ret ?_
    refine ⟨rfl, [_], .cons (.tmp rfl) (.nil), fin_drop (μ' := []) (List.nil_sublist _) (fin_done (ret_tup1 ?_))⟩
    simp [rightF, *]

theorem value_spec (l : Lv) : ∀ (f : Int → Int) (m : Mem) (cs : List Value) (b : Nat), LvV m l cs → allF l 4 = true → sizeL l ≤ 100000 → (∀ i, 0 ≤ i → i < 4 → 0 ≤ f i ∧ f i ≤ 1048576) → RdN m b 0 [.int .i64 (f 0), .int .i64 (f 1), .int .i64 (f 2), .int .i64 (f 3)] →
    Scal Try.prog 34 #[.agg cs.toArray, .pointer (some ⟨b, 0, none⟩)] m (.int .i64 (valF l f)) := by
  induction l using Lv.ind with
  | _ k nn ls ih =>
    intro f m cs vb hl hall hsz hf hv
    refine scal_of ?_
    obtain ⟨_, _, _, a, cap, ⟨rfl, rfl, rfl⟩, rfl, hk, hn, hlen, hat⟩ := hl.open
    refine spec_body (vs := [_, _]) Try.func34 rfl Try.ntmps34 rfl (fun E => ?_)
    refine x_seq ?_
    refine x_region ?_
    refine xo_box rfl rfl (cs := [_, _, _]) rfl (fun b2 => ?_)
    refine xo_rn rfl (rn_assign rfl) ?_
    refine xo_nil (kseq_normal ?_)
    refine x_seq ?_
    refine x_seq ?_
    refine x_region ?_
    refine xo_rn rfl (rn_fieldAddr tf24_0 rfl) ?_
    refine xo_rl rfl (rl_own (q := 0) tk3 rfl rfl rfl) ?_
    refine xo_nil (kseq_normal ?_)
    refine x_block ?_
    refine x_seq ?_
    refine x_region ?_
    refine xo_rn rfl (rn_eql rfl rfl) ?_
    refine xo_rn rfl (rn_assign rfl) ?_
    refine xo_nil (kseq_normal ?_)
    refine x_cond rfl (fun hc8 => ?_) (fun hc8 => ?_)
    · have hc8b := hc8
      try rw [Bool.not_eq_true'] at hc8
      try rw [Bool.not_eq_false'] at hc8
      try rw [decide_eq_true_eq] at hc8
      try rw [decide_eq_false_iff_not] at hc8
      try rw [Int.not_lt] at hc8
      try rw [Int.not_le] at hc8
      refine x_seq ?_
      refine x_region ?_
      refine xo_rn rfl (rn_fieldAddr tf24_1 rfl) ?_
      refine xo_rl rfl (rl_own (q := 0) tk3 rfl rfl rfl) ?_
      refine xo_rn rfl (rn_assign rfl) ?_
      refine xo_nil (kseq_normal ?_)
      refine x_ret (kblock_ret (kseq_ret ?_))
      refine ⟨rfl, [_], .cons (.tmp rfl) (.nil), fin_drop (μ' := []) (List.nil_sublist _) (fin_done (ret_tup1 ?_))⟩
      simp [valF, valNode, hc8]
    · have hc8b := hc8
      try rw [Bool.not_eq_true'] at hc8
      try rw [Bool.not_eq_false'] at hc8
      try rw [decide_eq_true_eq] at hc8
      try rw [decide_eq_false_iff_not] at hc8
      try rw [Int.not_lt] at hc8
      try rw [Int.not_le] at hc8
      refine x_seq ?_
      refine x_region ?_
      refine xo_rn rfl (rn_eql rfl rfl) ?_
      refine xo_rn rfl (rn_assign rfl) ?_
      refine xo_nil (kseq_normal ?_)
      refine x_cond rfl (fun hc12 => ?_) (fun hc12 => ?_)
      · have hc12b := hc12
        try rw [Bool.not_eq_true'] at hc12
        try rw [Bool.not_eq_false'] at hc12
        try rw [decide_eq_true_eq] at hc12
        try rw [decide_eq_false_iff_not] at hc12
        try rw [Int.not_lt] at hc12
        try rw [Int.not_le] at hc12
        refine x_seq ?_
        refine x_env (ρ' := [(1, _), (2, _), (4, _)]) ⟨rfl, rfl, rfl, trivial⟩ ?_
        refine x_region_draw (by kernel_rfl) ?_
        refine xa_p (by kernel_rfl) 0 14 [1] rfl rfl rfl rfl rfl rfl rfl (pv_none (rn_move rfl)) ?_
        refine xa_p (by kernel_rfl) 1 15 [2] rfl rfl rfl rfl rfl rfl rfl (pv_none (rn_fieldAddr tf24_1 rfl)) ?_
        refine xa_l (by kernel_rfl) 2 16 [15] rfl rfl rfl rfl rfl rfl rfl (pvl_none (rl_own (q := 0) tk3 rfl rfl rfl)) ?_
        refine xa_p (by kernel_rfl) 3 17 [14] rfl rfl rfl rfl rfl rfl rfl (pv_none (rn_nilCheck rfl)) ?_
        obtain ⟨h0, h4⟩ := all_param hall hc12
        have hq : nn = (nn.toNat : Int) := by omega
        have hlt : nn.toNat < 4 := by omega
        refine xa_p (by kernel_rfl) 4 18 [17, 16] rfl rfl rfl rfl rfl rfl rfl (pv_none (rn_indexAddr_arr (q := nn.toNat) tar44 rfl rfl hq hlt)) ?_
        have hrd : Rd m vb (0 + nn.toNat * 1) (.int .i64 (f nn)) := by
          obtain h | h | h | h : nn = 0 ∨ nn = 1 ∨ nn = 2 ∨ nn = 3 := by omega
          · subst h; exact hv 0 _ rfl
          · subst h; exact hv 1 _ rfl
          · subst h; exact hv 2 _ rfl
          · subst h; exact hv 3 _ rfl
        refine xa_l (by kernel_rfl) 5 19 [18] rfl rfl rfl rfl rfl rfl rfl (pvl_none (rl_mem1 tk3 rfl (hrd))) ?_
        refine xa_p (by kernel_rfl) 6 4 [19] rfl rfl rfl rfl rfl rfl rfl (pv_none (rn_assign rfl)) ?_
        refine xa_end (by kernel_rfl) rfl (kseq_normal ?_)
        refine x_ret (kblock_ret (kseq_ret ?_))
        refine ⟨rfl, [_], .cons (.tmp rfl) (.nil), fin_drop (μ' := []) (List.nil_sublist _) (fin_done (ret_tup1 ?_))⟩
        simp [valF, valNode, hc8, hc12]
      · have hc12b := hc12
        try rw [Bool.not_eq_true'] at hc12
        try rw [Bool.not_eq_false'] at hc12
        try rw [decide_eq_true_eq] at hc12
        try rw [decide_eq_false_iff_not] at hc12
        try rw [Int.not_lt] at hc12
        try rw [Int.not_le] at hc12
        refine x_seq ?_
        refine x_region ?_
        refine xo_rn rfl (rn_eql rfl rfl) ?_
        refine xo_rn rfl (rn_assign rfl) ?_
        refine xo_nil (kseq_normal ?_)
        refine x_cond rfl (fun hc20 => ?_) (fun hc20 => ?_)
        · have hc20b := hc20
          try rw [Bool.not_eq_true'] at hc20
          try rw [Bool.not_eq_false'] at hc20
          try rw [decide_eq_true_eq] at hc20
          try rw [decide_eq_false_iff_not] at hc20
          try rw [Int.not_lt] at hc20
          try rw [Int.not_le] at hc20
          refine x_seq ?_
          refine x_region ?_
          refine xo_rn rfl (rn_fieldAddr tf24_2 rfl) ?_
          refine xo_rl rfl (rl_own (q := 0) tk22 rfl rfl rfl) ?_
          obtain ⟨x, rfl⟩ := all_succ hall hc20
          obtain ⟨b, off, k1, n1, l1, a1, cap1, rfl, rfl, hrd, hlv⟩ := hat 0 x rfl
          have hlt : 0 < [Lv.mk k1 n1 l1].length := by simp
          refine xo_rn rfl (rn_indexAddr (q := 0) tsl22 rfl rfl rfl hlt) ?_
          refine xo_rl rfl (rl_memN tk24 rfl (hrd) rfl) ?_
          refine xo_rn rfl (rn_move rfl) ?_
          have hax := all_arg hall (i := 0) rfl
          have hsx := size_arg hsz (i := 0) rfl
          have hvb := valF_bound _ f hax hf
          refine xo_callS rfl cl34 (vs := [_, _]) rfl (ih _ (by simp) f m _ vb hlv hax hsx hf hv) ?_
          refine xo_rn rfl (by first | exact rn_addN rfl rfl (by unfold i64; omega) | exact rn_add rfl rfl) ?_
          refine xo_rn rfl (rn_assign rfl) ?_
          refine xo_nil (kseq_normal ?_)
          refine x_ret (kblock_ret (kseq_ret ?_))
          refine ⟨rfl, [_], .cons (.tmp rfl) (.nil), fin_drop (μ' := []) (List.nil_sublist _) (fin_done (ret_tup1 ?_))⟩
          subst hc20
          rw [valF_mk1]
        · have hc20b := hc20
          try rw [Bool.not_eq_true'] at hc20
          try rw [Bool.not_eq_false'] at hc20
          try rw [decide_eq_true_eq] at hc20
          try rw [decide_eq_false_iff_not] at hc20
          try rw [Int.not_lt] at hc20
          try rw [Int.not_le] at hc20
          refine x_skip (kblock_normal (kseq_normal ?_))
          refine x_seq ?_
          refine x_region ?_
          refine xo_rn rfl (rn_fieldAddr tf24_2 rfl) ?_
          refine xo_rl rfl (rl_own (q := 0) tk22 rfl rfl rfl) ?_
          obtain ⟨x, y, rfl⟩ := all_two hall hc8 hc12 hc20
          obtain ⟨b, off, k2, n2, l2, a2, cap2, rfl, rfl, hrd2, hlv2⟩ := hat 1 y rfl
          obtain ⟨_, _, k1, n1, l1, a1, cap1, heq, rfl, hrd, hlv⟩ := hat 0 x rfl
          cases heq
          have hlt : 1 < [Lv.mk k1 n1 l1, Lv.mk k2 n2 l2].length := by simp
          have hlt0 : 0 < [Lv.mk k1 n1 l1, Lv.mk k2 n2 l2].length := by simp
          refine xo_rn rfl (rn_indexAddr (q := 1) tsl22 rfl rfl rfl hlt) ?_
          refine xo_rl rfl (rl_memN tk24 rfl (hrd2) rfl) ?_
          refine xo_rn rfl (rn_move rfl) ?_
          refine xo_callS rfl cl34 (vs := [_, _]) rfl (ih _ (by simp) f m _ vb hlv2 (all_arg hall (i := 1) rfl) (size_arg hsz (i := 1) rfl) hf hv) ?_
          refine xo_rn rfl (rn_assign rfl) ?_
          refine xo_nil (kseq_normal ?_)
          refine x_seq ?_
          refine x_seq ?_
          refine x_region ?_
          refine xo_rn rfl (rn_fieldAddr tf24_0 rfl) ?_
          refine xo_rl rfl (rl_own (q := 0) tk3 rfl rfl rfl) ?_
          refine xo_rn rfl (rn_eql rfl rfl) ?_
          refine xo_rn rfl (rn_move rfl) ?_
          refine xo_guard rfl rfl (fun hg38 => ?_) (fun hg38 => ?_) rfl
          · have hg38_p := hg38
            try rw [Bool.not_eq_true'] at hg38_p
            try rw [Bool.not_eq_false'] at hg38_p
            try rw [decide_eq_true_eq] at hg38_p
            try rw [decide_eq_false_iff_not] at hg38_p
            try rw [Int.not_lt] at hg38_p
            try rw [Int.not_le] at hg38_p
            refine xo_rn rfl (rn_move rfl) ?_
            refine xo_guard_yes rfl rfl hg38 ?_ rfl
            refine xo_rn rfl (rn_eql rfl rfl) ?_
            refine xo_rn rfl (rn_pick_t rfl hg38 rfl) ?_
            refine xo_nil (kseq_normal ?_)
            refine x_cond rfl (fun hc41 => ?_) (fun hc41 => ?_)
            · have hc41b := hc41
              try rw [Bool.not_eq_true'] at hc41
              try rw [Bool.not_eq_false'] at hc41
              try rw [decide_eq_true_eq] at hc41
              try rw [decide_eq_false_iff_not] at hc41
              try rw [Int.not_lt] at hc41
              try rw [Int.not_le] at hc41
              refine x_seq ?_
              refine x_region ?_
              refine xo_rn rfl (rn_assign rfl) ?_
              refine xo_nil (kseq_normal ?_)
              refine x_ret (kseq_ret ?_)
              refine ⟨rfl, [_], .cons (.tmp rfl) (.nil), fin_drop (μ' := []) (List.nil_sublist _) (fin_done (ret_tup1 ?_))⟩
              rw [valF_mk2 hc8 hc12 hc20, if_pos ⟨hg38_p, hc41⟩]
            · have hc41b := hc41
              try rw [Bool.not_eq_true'] at hc41
              try rw [Bool.not_eq_false'] at hc41
              try rw [decide_eq_true_eq] at hc41
              try rw [decide_eq_false_iff_not] at hc41
              try rw [Int.not_lt] at hc41
              try rw [Int.not_le] at hc41
              refine x_skip (kseq_normal ?_)
              refine x_seq ?_
              refine x_region ?_
              refine xo_rn rfl (rn_fieldAddr tf24_2 rfl) ?_
              refine xo_rl rfl (rl_own (q := 0) tk22 rfl rfl rfl) ?_
              refine xo_rn rfl (rn_indexAddr (q := 0) tsl22 rfl rfl rfl hlt0) ?_
              refine xo_rl rfl (rl_memN tk24 rfl (hrd) rfl) ?_
              refine xo_rn rfl (rn_move rfl) ?_
              refine xo_callS rfl cl34 (vs := [_, _]) rfl (ih _ (by simp) f m _ vb hlv (all_arg hall (i := 0) rfl) (size_arg hsz (i := 0) rfl) hf hv) ?_
              refine xo_rn rfl (rn_move rfl) ?_
              refine xo_rn rfl (rn_max rfl rfl) ?_
              refine xo_rn rfl (rn_assign rfl) ?_
              refine xo_nil (kseq_normal ?_)
              refine x_ret ?_
              refine ⟨rfl, [_], .cons (.tmp rfl) (.nil), fin_drop (μ' := []) (List.nil_sublist _) (fin_done (ret_tup1 ?_))⟩
              rw [valF_mk2 hc8 hc12 hc20, if_neg (fun h => hc41 h.2)]
          · replace hg38 := ne_t hg38
            have hg38_p := hg38
            try rw [Bool.not_eq_true'] at hg38_p
            try rw [Bool.not_eq_false'] at hg38_p
            try rw [decide_eq_true_eq] at hg38_p
            try rw [decide_eq_false_iff_not] at hg38_p
            try rw [Int.not_lt] at hg38_p
            try rw [Int.not_le] at hg38_p
            dsimp only [putU]
            refine xo_guard_no rfl rfl (by rw [hg38]; decide) rfl ?_
            refine xo_rn rfl (rn_pick_f rfl hg38 rfl) ?_
            refine xo_nil (kseq_normal ?_)
            refine x_cond_false rfl ?_
            refine x_skip (kseq_normal ?_)
            refine x_seq ?_
            refine x_region ?_
            refine xo_rn rfl (rn_fieldAddr tf24_2 rfl) ?_
            refine xo_rl rfl (rl_own (q := 0) tk22 rfl rfl rfl) ?_
            refine xo_rn rfl (rn_indexAddr (q := 0) tsl22 rfl rfl rfl hlt0) ?_
            refine xo_rl rfl (rl_memN tk24 rfl (hrd) rfl) ?_
            refine xo_rn rfl (rn_move rfl) ?_
            refine xo_callS rfl cl34 (vs := [_, _]) rfl (ih _ (by simp) f m _ vb hlv (all_arg hall (i := 0) rfl) (size_arg hsz (i := 0) rfl) hf hv) ?_
            refine xo_rn rfl (rn_move rfl) ?_
            refine xo_rn rfl (rn_max rfl rfl) ?_
            refine xo_rn rfl (rn_assign rfl) ?_
            refine xo_nil (kseq_normal ?_)
            refine x_ret ?_
            refine ⟨rfl, [_], .cons (.tmp rfl) (.nil), fin_drop (μ' := []) (List.nil_sublist _) (fin_done (ret_tup1 ?_))⟩
            rw [valF_mk2 hc8 hc12 hc20, if_neg (fun h => hg38_p h.1)]

theorem Value_spec (l : Lv) (vs : List Int) (m : Mem) (cs : List Value) (sv : Value) (hl : LvV m l cs) (hv : IntsV m vs sv) : Scal Try.prog 15 #[.agg cs.toArray, sv] m (.int .i64 (valueF l vs)) := by
  refine scal_of ?_
  obtain ⟨k, nn, ls, a, cap, rfl, rfl, hk, hn, hlen, hat⟩ := hl.open
  obtain ⟨va, vcap, rfl, hvc, hv64, hvat⟩ := hv
  refine spec_body (vs := [_, _]) Try.func15 rfl Try.ntmps15 rfl (fun E => ?_)
  refine x_seq ?_
  refine x_region ?_
  refine xo_box rfl rfl (cs := [_, _, _]) rfl (fun b2 => ?_)
  refine xo_rn rfl (rn_assign rfl) ?_
  refine xo_nil (kseq_normal ?_)
  refine x_seq ?_
  refine x_seq ?_
  refine x_region ?_
  refine xo_rl rfl (rl_own (q := 0) (v := .agg #[_, _, _]) tk24 rfl rfl rfl) ?_
  refine xo_callS rfl cl13 (vs := [_, _]) rfl (Right_spec _ _ _ _ hl) ?_
  refine xo_rn rfl (rn_not rfl) ?_
  refine xo_nil (kseq_normal ?_)
  refine x_cond rfl (fun hc10 => ?_) (fun hc10 => ?_)
  · have hc10b := hc10
    try rw [Bool.not_eq_true'] at hc10
    try rw [Bool.not_eq_false'] at hc10
    try rw [decide_eq_true_eq] at hc10
    try rw [decide_eq_false_iff_not] at hc10
    try rw [Int.not_lt] at hc10
    try rw [Int.not_le] at hc10
    refine x_seq ?_
    refine x_region ?_
    refine xo_rn rfl (rn_assign rfl) ?_
    refine xo_nil (kseq_normal ?_)
    refine x_ret (kseq_ret ?_)
    refine ⟨rfl, [_], .cons (.tmp rfl) (.nil), fin_drop (μ' := []) (List.nil_sublist _) (fin_done (ret_tup1 ?_))⟩
    simp [valueF, hc10]
  · have hc10b := hc10
    try rw [Bool.not_eq_true'] at hc10
    try rw [Bool.not_eq_false'] at hc10
    try rw [decide_eq_true_eq] at hc10
    try rw [decide_eq_false_iff_not] at hc10
    try rw [Int.not_lt] at hc10
    try rw [Int.not_le] at hc10
    refine x_skip (kseq_normal ?_)
    refine x_seq ?_
    refine x_region ?_
    refine xo_alloc rfl tz44 (cs := [_, _, _, _]) rfl (fun b5 => ?_)
    refine xo_nil (kseq_normal ?_)
    refine x_seq ?_
    refine x_seq ?_
    refine x_region ?_
    refine xo_rn rfl (rn_move rfl) ?_
    refine xo_rn rfl (rn_move rfl) ?_
    refine xo_rn rfl (rn_len_slice tsl25 rfl) ?_
    refine xo_rn rfl (rn_min rfl rfl) ?_
    refine xo_rn rfl (rn_slice_hi (q := min vs.length 4) tsl25 rfl rfl (by omega) (by omega)) ?_
    refine xo_rn rfl (rn_len_slice tsl25 rfl) ?_
    refine xo_rn rfl (rn_move rfl) ?_
    refine xo_nil (kseq_normal ?_)
    refine x_block ?_
    refine x_loop (G := Nat) (fun g => [(17, .int .i64 (g : Int)), (16, .int .i64 ((min vs.length 4 : Nat) : Int)), (15, .slice va (min vs.length 4) vcap), (5, .pointer (some ⟨b5, 0, none⟩)), (2, .pointer (some ⟨b2, 0, none⟩))])
      (fun g => [bx b5 44 [.int .i64 (clampTo vs g 0), .int .i64 (clampTo vs g 1), .int .i64 (clampTo vs g 2), .int .i64 (clampTo vs g 3)], bx b2 24 [.int .i64 k, .int .i64 nn, .slice a ls.length cap]])
      (fun g m' => g ≤ min vs.length 4 ∧ m' = m) (fun g => 4 - g) 0
      ⟨by simp, rfl⟩ ⟨rfl, rfl, rfl, rfl, rfl, trivial⟩ (.refl _) ?_
    rintro i m' ⟨hi, rfl⟩ hle
    refine x_seq ?_
    refine x_region ?_
    refine xo_rn rfl (rn_lss rfl rfl) ?_
    refine xo_nil (kseq_normal ?_)
    refine x_seq ?_
    refine x_cond rfl (fun hc18 => ?_) (fun hc18 => ?_)
    · have hc18b := hc18
      try rw [Bool.not_eq_true'] at hc18
      try rw [Bool.not_eq_false'] at hc18
      try rw [decide_eq_true_eq] at hc18
      try rw [decide_eq_false_iff_not] at hc18
      try rw [Int.not_lt] at hc18
      try rw [Int.not_le] at hc18
      refine x_skip (kseq_normal ?_)
      refine x_seq ?_
      refine x_block ?_
      refine x_seq ?_
      refine x_region ?_
      refine xo_rn rfl (rn_move rfl) ?_
      have hi' : i < min vs.length 4 := by omega
      obtain ⟨vi, hvi⟩ : ∃ vi, vs[i]? = some vi := ⟨_, List.getElem?_eq_getElem (by omega)⟩
      obtain ⟨vb, voff, rfl, hrd⟩ := hvat i vi hvi
      refine xo_rn rfl (rn_indexAddr (q := i) tsl25 rfl rfl rfl hi') ?_
      refine xo_rl rfl (rl_mem1 tk3 rfl (hrd)) ?_
      refine xo_rn rfl (rn_assign rfl) ?_
      refine xo_rn rfl (rn_assign rfl) ?_
      refine xo_nil (kseq_normal ?_)
      refine x_region ?_
      refine xo_rn rfl (rn_move rfl) ?_
      refine xo_rn rfl (rn_move rfl) ?_
      refine xo_rn rfl (rn_max rfl rfl) ?_
      refine xo_rn rfl (rn_min rfl rfl) ?_
      refine xo_rn rfl (rn_indexAddr_arr (q := i) tar44 rfl rfl rfl (by omega)) ?_
      refine xo_store (q := 0) (vs := [_]) (cs' := [.int .i64 (clampTo vs (i + 1) 0), .int .i64 (clampTo vs (i + 1) 1), .int .i64 (clampTo vs (i + 1) 2), .int .i64 (clampTo vs (i + 1) 3)]) (μ' := [_, _]) tk3 rfl rfl rfl rfl rfl rfl (by simp; omega) (clampTo_upd hvi (by omega)) rfl ?_
      refine xo_nil (kblock_normal (kseq_normal ?_))
      refine x_region ?_
      refine xo_rn rfl (by first | exact rn_addN rfl rfl (by unfold i64; omega) | exact rn_add rfl rfl) ?_
      refine xo_rn rfl (rn_move rfl) ?_
      refine xo_nil (kloop_normal ?_)
      refine ⟨i + 1, by omega, ⟨hi', rfl⟩, ⟨rfl, rfl, rfl, rfl, rfl, trivial⟩, .refl _, rfl, hle⟩
    · have hc18b := hc18
      try rw [Bool.not_eq_true'] at hc18
      try rw [Bool.not_eq_false'] at hc18
      try rw [decide_eq_true_eq] at hc18
      try rw [decide_eq_false_iff_not] at hc18
      try rw [Int.not_lt] at hc18
      try rw [Int.not_le] at hc18
      refine x_exit (kseq_exit (kloop_exit (kblock_exit_here (kseq_normal ?_))))
      refine x_seq ?_
      refine x_region ?_
      refine xo_rl rfl (rl_own (q := 1) (v := .agg #[_, _, _]) tk24 rfl rfl rfl) ?_
      refine xo_freezeBlk (q := 0) rfl (fun m_b5 hle_b5 hm_b5 => ?_)
      dsimp only [List.eraseIdx]
      obtain rfl : i = min vs.length 4 := by omega
      have hrow : RdN m_b5 b5 0 [.int .i64 (clampF vs 0), .int .i64 (clampF vs 1), .int .i64 (clampF vs 2), .int .i64 (clampF vs 3)] := by
        show RdN _ _ _ [.int .i64 (clampF vs ((0 : Nat) : Int)), .int .i64 (clampF vs ((1 : Nat) : Int)), .int .i64 (clampF vs ((2 : Nat) : Int)), .int .i64 (clampF vs ((3 : Nat) : Int))]
        rw [← clampTo_all vs 0 (by omega), ← clampTo_all vs 1 (by omega), ← clampTo_all vs 2 (by omega), ← clampTo_all vs 3 (by omega)]
        exact fun j v hj => ⟨_, _, _, hm_b5, by simpa using hj⟩
      refine xo_callS rfl cl34 (vs := [_, _]) rfl (value_spec _ (clampF vs) _ _ _ (hl.mono hle_b5) (right_all hc10) (right_size hc10) (fun j _ _ => clampF_bound vs j) hrow) ?_
      refine xo_rn rfl (rn_assign rfl) ?_
      refine xo_nil (kseq_normal ?_)
      refine x_ret ?_
      refine ⟨rfl, [_], .cons (.tmp rfl) (.nil), fin_drop (μ' := []) (List.nil_sublist _) (fin_done (ret_tup1 ?_))⟩
      simp [valueF, hc10]

end Go.Proofs.Ytagilgmgacpffaa

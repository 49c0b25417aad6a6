/-
  Contracts of the references on levels.
-/
import Derived.Test.YtagilgmgacpffaaLvi
namespace Go.Proofs.Ytagilgmgacpffaa
open Go Go.Gw

theorem LevelNodes_spec (l : Lv) : ∀ (q : Int) (m : Mem) (cs : List Value), LvV m l cs → 0 ≤ q → q ≤ 1000000 → Scal Try.prog 22 #[.agg cs.toArray, .int .i64 q] m (.int .i64 (lnF l q)) := by
  induction l using Lv.ind with
  | _ k nn ls ih =>
    intro q m cs hl hq0 hq1
    refine scal_of ?_
    obtain ⟨_, _, _, a, cap, ⟨rfl, rfl, rfl⟩, rfl, hk, hn, hlen, hat⟩ := hl.open
    refine spec_body (vs := [_, _]) Try.func22 rfl Try.ntmps22 rfl (fun E => ?_)
    refine x_seq ?_
    refine x_region ?_
    refine xo_box rfl rfl (cs := [_, _, _]) rfl (fun b2 => ?_)
    refine xo_rn rfl (rn_assign rfl) ?_
    refine xo_nil (kseq_normal ?_)
    refine x_seq ?_
    refine x_region ?_
    refine xo_rn rfl (rn_assign rfl) ?_
    refine xo_nil (kseq_normal ?_)
    refine x_seq ?_
    refine x_seq ?_
    refine x_region ?_
    refine xo_rn rfl (rn_assign rfl) ?_
    refine xo_nil (kseq_normal ?_)
    refine x_block ?_
    refine x_loop (G := Nat × Int) (fun g => [(6, .int .i64 (g.1 : Int)), (5, .int .i64 g.2), (2, .pointer (some ⟨b2, 0, none⟩)), (1, .int .i64 q)])
      (fun g => [bx b2 24 [.int .i64 k, .int .i64 nn, .slice a ls.length cap]]) (fun g m' => g.1 ≤ ls.length ∧ 1 ≤ g.2 ∧ g.2 ≤ 2 * q + 2 ∧ lnFs (ls.drop g.1) g.2 q = lnFs ls 1 q) (fun g => ls.length - g.1) (0, 1)
      ⟨by simp, by simp, by dsimp only; omega, by simp⟩ ⟨rfl, rfl, rfl, rfl, trivial⟩ (.cons_cons _ (.refl _)) ?_
    rintro ⟨i, acc⟩ m' ⟨hi, ha1, ha2, hacc⟩ hle
    dsimp only at hi ha1 ha2 hacc ⊢
    refine x_seq ?_
    refine x_seq ?_
    refine x_region ?_
    refine xo_rn rfl (rn_move rfl) ?_
    refine xo_rn rfl (rn_fieldAddr tf24_2 rfl) ?_
    refine xo_rl rfl (rl_own (q := 0) tk22 rfl rfl rfl) ?_
    refine xo_rn rfl (rn_len_slice tsl22 rfl) ?_
    refine xo_rn rfl (rn_lss rfl rfl) ?_
    refine xo_rn rfl (rn_move rfl) ?_
    refine xo_guard rfl rfl (fun hg12 => ?_) (fun hg12 => ?_) rfl
    · have hg12_p := hg12
      try rw [Bool.not_eq_true'] at hg12_p
      try rw [Bool.not_eq_false'] at hg12_p
      try rw [decide_eq_true_eq] at hg12_p
      try rw [decide_eq_false_iff_not] at hg12_p
      try rw [Int.not_lt] at hg12_p
      try rw [Int.not_le] at hg12_p
      refine xo_rn rfl (rn_move rfl) ?_
      refine xo_guard_yes rfl rfl hg12 ?_ rfl
      refine xo_rn rfl (rn_move rfl) ?_
      refine xo_guard_yes rfl rfl hg12 ?_ rfl
      refine xo_rn rfl (rn_leq rfl rfl) ?_
      refine xo_rn rfl (rn_pick_t rfl hg12 rfl) ?_
      refine xo_nil (kseq_normal ?_)
      refine x_cond rfl (fun hc16 => ?_) (fun hc16 => ?_)
      · have hc16b := hc16
        try rw [Bool.not_eq_true'] at hc16
        try rw [Bool.not_eq_false'] at hc16
        try rw [decide_eq_true_eq] at hc16
        try rw [decide_eq_false_iff_not] at hc16
        try rw [Int.not_lt] at hc16
        try rw [Int.not_le] at hc16
        refine x_skip (kseq_normal ?_)
        refine x_seq ?_
        refine x_block ?_
        refine x_region ?_
        refine xo_rn rfl (rn_move rfl) ?_
        refine xo_rn rfl (rn_fieldAddr tf24_2 rfl) ?_
        refine xo_rl rfl (rl_own (q := 0) tk22 rfl rfl rfl) ?_
        refine xo_rn rfl (rn_move rfl) ?_
        have hi' : i < ls.length := by omega
        obtain ⟨lc, hlc⟩ : ∃ lc, ls[i]? = some lc := ⟨_, List.getElem?_eq_getElem hi'⟩
        obtain ⟨b, off, k1, n1, l1, a1, cap1, rfl, rfl, hrd, hlv⟩ := hat _ lc hlc
        have hx := lnF_eq (.mk k1 n1 l1) q hq0
        have hxp : 1 ≤ sizeL (.mk k1 n1 l1) := by simp [sizeL]
        refine xo_rn rfl (rn_indexAddr (q := i) tsl22 rfl rfl rfl hi') ?_
        refine xo_rl rfl (rl_memN tk24 rfl (hrd.mono hle) rfl) ?_
        refine xo_rn rfl (rn_move rfl) ?_
        refine xo_callS rfl cl22 (vs := [_, _]) rfl (ih _ (List.mem_of_getElem? hlc) q m' _ (hlv.mono hle) hq0 hq1) ?_
        refine xo_rn rfl (by first | exact rn_addN rfl rfl (by unfold i64; omega) | exact rn_add rfl rfl) ?_
        refine xo_rn rfl (rn_assign rfl) ?_
        refine xo_nil (kblock_normal (kseq_normal ?_))
        refine x_region ?_
        refine xo_rn rfl (rn_move rfl) ?_
        refine xo_rn rfl (by first | exact rn_addN rfl rfl (by unfold i64; omega) | exact rn_add rfl rfl) ?_
        refine xo_rn rfl (rn_assign rfl) ?_
        refine xo_nil (kloop_normal ?_)
        refine ⟨(i + 1, acc + lnF (.mk k1 n1 l1) q), by dsimp only; omega, ⟨hi', by dsimp only; omega, by dsimp only; omega, ?_⟩, ⟨rfl, rfl, rfl, rfl, trivial⟩, .cons_cons _ (.refl _), rfl, hle⟩
        rw [← hacc, drop_at hlc, lnFs, if_pos hc16]
      · have hc16b := hc16
        try rw [Bool.not_eq_true'] at hc16
        try rw [Bool.not_eq_false'] at hc16
        try rw [decide_eq_true_eq] at hc16
        try rw [decide_eq_false_iff_not] at hc16
        try rw [Int.not_lt] at hc16
        try rw [Int.not_le] at hc16
        refine x_exit (kseq_exit (kloop_exit (kblock_exit_here (kseq_normal ?_))))
        refine x_seq ?_
        refine x_region ?_
        refine xo_rn rfl (rn_move rfl) ?_
        refine xo_rn rfl (rn_move rfl) ?_
        refine xo_rn rfl (by first | exact rn_addN rfl rfl (by unfold i64; omega) | exact rn_add rfl rfl) ?_
        refine xo_rn rfl (rn_min rfl rfl) ?_
        refine xo_rn rfl (rn_assign rfl) ?_
        refine xo_nil (kseq_normal ?_)
        refine x_ret ?_
        refine ⟨rfl, [_], .cons (.tmp rfl) (.nil), fin_drop (μ' := []) (List.nil_sublist _) (fin_done (ret_tup1 ?_))⟩
        have e : lnFs ls 1 q = acc := by
          rw [← hacc]
          by_cases hil : i < ls.length
          · obtain ⟨lc, hlc⟩ : ∃ lc, ls[i]? = some lc := ⟨_, List.getElem?_eq_getElem hil⟩
            rw [drop_at hlc, lnFs, if_neg (by omega)]
          · rw [List.drop_of_length_le (by omega), lnFs]
        rw [lnF, e]
    · replace hg12 := ne_t hg12
      have hg12_p := hg12
      try rw [Bool.not_eq_true'] at hg12_p
      try rw [Bool.not_eq_false'] at hg12_p
      try rw [decide_eq_true_eq] at hg12_p
      try rw [decide_eq_false_iff_not] at hg12_p
      try rw [Int.not_lt] at hg12_p
      try rw [Int.not_le] at hg12_p
      dsimp only [putU]
      refine xo_guard_no rfl rfl (by rw [hg12]; decide) rfl ?_
      refine xo_guard_no rfl rfl (by rw [hg12]; decide) rfl ?_
      refine xo_rn rfl (rn_pick_f rfl hg12 rfl) ?_
      refine xo_nil (kseq_normal ?_)
      refine x_cond_false rfl ?_
      refine x_exit (kseq_exit (kloop_exit (kblock_exit_here (kseq_normal ?_))))
      refine x_seq ?_
      refine x_region ?_
      refine xo_rn rfl (rn_move rfl) ?_
      refine xo_rn rfl (rn_move rfl) ?_
      refine xo_rn rfl (by first | exact rn_addN rfl rfl (by unfold i64; omega) | exact rn_add rfl rfl) ?_
      refine xo_rn rfl (rn_min rfl rfl) ?_
      refine xo_rn rfl (rn_assign rfl) ?_
      refine xo_nil (kseq_normal ?_)
      refine x_ret ?_
      refine ⟨rfl, [_], .cons (.tmp rfl) (.nil), fin_drop (μ' := []) (List.nil_sublist _) (fin_done (ret_tup1 ?_))⟩
      have e : lnFs ls 1 q = acc := by
        rw [← hacc, List.drop_of_length_le (by omega), lnFs]
      rw [lnF, e]

theorem CopyLevel_spec (l : Lv) : ∀ (m : Mem) (cs : List Value), LvV m l cs → Cspec Try.prog 10 #[.agg cs.toArray] m [] (Ret (LvOut l)) := by
  induction l using Lv.ind with
  | _ k nn ls ih =>
    intro m cs hl
    obtain ⟨_, _, _, a, cap, ⟨rfl, rfl, rfl⟩, rfl, hk, hn, hlen, hat⟩ := hl.open
    refine spec_body (vs := [_]) Try.func10 rfl Try.ntmps10 rfl (fun E => ?_)
    refine x_seq ?_
    refine x_region ?_
    refine xo_box rfl rfl (cs := [_, _, _]) rfl (fun b1 => ?_)
    refine xo_alloc rfl tz24 (cs := [_, _, _]) rfl (fun b2 => ?_)
    refine xo_nil (kseq_normal ?_)
    refine x_seq ?_
    refine x_region ?_
    refine xo_rn rfl (rn_fieldAddr tf24_0 rfl) ?_
    refine xo_rl rfl (rl_own (q := 1) tk3 rfl rfl rfl) ?_
    refine xo_rn rfl (rn_fieldAddr tf24_1 rfl) ?_
    refine xo_rl rfl (rl_own (q := 1) tk3 rfl rfl rfl) ?_
    refine xo_rn rfl (rn_build (pv := [(_, _), (_, _)]) (zs := [_, _, _]) (cs := [_, _, _]) tpl24 tz24 rfl rfl rfl) ?_
    refine xo_alloc rfl tz24 (cs := [_, _, _]) rfl (fun b3 => ?_)
    refine xo_store (q := 0) (vs := [_, _, _]) (cs' := [_, _, _]) (μ' := [_, _, _]) tk24 rfl rfl rfl rfl rfl rfl rfl rfl rfl ?_
    refine xo_nil (kseq_normal ?_)
    refine x_seq ?_
    refine x_seq ?_
    refine x_region ?_
    refine xo_rn rfl (rn_assign rfl) ?_
    refine xo_nil (kseq_normal ?_)
    refine x_block ?_
    refine x_nilRow 24 3 ?_
    refine x_loop (G := (Option Addr × Nat) × List (List Value)) (fun g => [(4, .int .i64 (g.2.length : Int)), (3, .pointer (some ⟨b3, 0, none⟩)), (2, .pointer (some ⟨b2, 0, none⟩)), (1, .pointer (some ⟨b1, 0, none⟩))])
      (fun g => [.row (.slice g.1.1 g.2.length g.1.2) 24 3 g.2.length g.2.flatten, bx b3 24 [.int .i64 k, .int .i64 nn, .slice g.1.1 g.2.length g.1.2], bx b2 24 [.int .i64 0, .int .i64 0, .slice none 0 0], bx b1 24 [.int .i64 k, .int .i64 nn, .slice a ls.length cap]])
      (fun g m' => g.2.length ≤ ls.length ∧ g.2.length ≤ g.1.2 ∧ LvAll m' (ls.take g.2.length) g.2) (fun g => ls.length - g.2.length) ((none, 0), [])
      ⟨by simp, by simp, by simp [LvAll]⟩ ⟨rfl, rfl, rfl, rfl, trivial⟩ (.cons_cons _ (.cons_cons _ (.cons_cons _ (.cons_cons _ (.refl _))))) ?_
    rintro ⟨⟨a0, c0⟩, css⟩ m' ⟨hi, hic, hall⟩ hle
    dsimp only at hi hic hall ⊢
    refine x_seq ?_
    refine x_seq ?_
    refine x_region ?_
    refine xo_rn rfl (rn_move rfl) ?_
    refine xo_rn rfl (rn_fieldAddr tf24_2 rfl) ?_
    refine xo_rl rfl (rl_own (q := 3) tk22 rfl rfl rfl) ?_
    refine xo_rn rfl (rn_len_slice tsl22 rfl) ?_
    refine xo_rn rfl (rn_lss rfl rfl) ?_
    refine xo_nil (kseq_normal ?_)
    refine x_cond rfl (fun hc14 => ?_) (fun hc14 => ?_)
    · have hc14b := hc14
      try rw [Bool.not_eq_true'] at hc14
      try rw [Bool.not_eq_false'] at hc14
      try rw [decide_eq_true_eq] at hc14
      try rw [decide_eq_false_iff_not] at hc14
      try rw [Int.not_lt] at hc14
      try rw [Int.not_le] at hc14
      refine x_skip (kseq_normal ?_)
      refine x_seq ?_
      refine x_block ?_
      refine x_env (ρ' := [(1, _), (2, _), (3, _), (4, _), (10, _), (11, _), (12, _), (13, _), (14, _)]) ⟨rfl, rfl, rfl, rfl, rfl, rfl, rfl, rfl, rfl, trivial⟩ ?_
      refine x_region_draw (by kernel_rfl) ?_
      refine xa_p (by kernel_rfl) 0 17 [3] rfl rfl rfl rfl rfl rfl rfl (pv_none (rn_fieldAddr tf24_2 rfl)) ?_
      refine xa_l (by kernel_rfl) 1 18 [17] rfl rfl rfl rfl rfl rfl rfl (pvl_none (rl_own (q := 1) tk22 rfl rfl rfl)) ?_
      refine xa_p (by kernel_rfl) 2 19 [1] rfl rfl rfl rfl rfl rfl rfl (pv_none (rn_fieldAddr tf24_2 rfl)) ?_
      refine xa_l (by kernel_rfl) 3 20 [19] rfl rfl rfl rfl rfl rfl rfl (pvl_none (rl_own (q := 3) tk22 rfl rfl rfl)) ?_
      refine xa_p (by kernel_rfl) 4 21 [4] rfl rfl rfl rfl rfl rfl rfl (pv_none (rn_move rfl)) ?_
      have hi' : css.length < ls.length := by omega
      obtain ⟨lc, hlc⟩ : ∃ lc, ls[css.length]? = some lc := ⟨_, List.getElem?_eq_getElem hi'⟩
      obtain ⟨b, off, k1, n1, l1, a1, cap1, rfl, rfl, hrd, hlv⟩ := hat _ lc hlc
      refine xa_p (by kernel_rfl) 5 22 [20, 21] rfl rfl rfl rfl rfl rfl rfl (pv_none (rn_indexAddr (q := css.length) tsl22 rfl rfl rfl hi')) ?_
      refine xa_l (by kernel_rfl) 6 23 [22] rfl rfl rfl rfl rfl rfl rfl (pvl_none (rl_memN tk24 rfl (hrd.mono hle) rfl)) ?_
      refine xa_effect (by kernel_rfl) 7 rfl rfl (by kernel_rfl) [6, 5, 3, 4, 2] (by kernel_rfl) rfl (pp' := [_]) (pl' := [_]) (hid := [17, 18]) rfl rfl rfl ?_
      refine xo_call0 rfl cl10 (vs := [_]) rfl (ih _ (List.mem_of_getElem? hlc) _ _ (hlv.mono hle)) (fun v24 m24 _ hle24 hq24 => ?_)
      obtain ⟨c2, rfl, hc2⟩ := hq24
      have hc2' := hc2
      obtain ⟨k2, n2, l2, a2, cap2, heq, rfl, -, -, -, -⟩ := hc2'.open
      refine xo_nil ⟨⟨_, rfl⟩, List.forall_mem_cons.2 ⟨pvl_none (rl_own (q := 1) tk22 rfl rfl rfl), fun _ hp => (by cases hp)⟩, ?_⟩
      refine xa_env (ρ' := [(17, _), (18, _), (24, _), (23, _), (22, _), (21, _), (20, _), (19, _), (1, _), (2, _), (3, _), (4, _), (10, _), (11, _), (12, _), (13, _), (14, _)]) rfl ?_
      refine xa_effect (by kernel_rfl) 8 rfl rfl (by kernel_rfl) [] (by kernel_rfl) rfl (pp' := [_]) (pl' := [_]) (hid := [17, 18]) rfl rfl rfl ?_
      refine xo_buildSlice (pv := [(_, _)]) (zs := [_, _, _]) (cs := [_, _, _]) rfl tsl22 tz24 rfl rfl rfl rfl (fun b25 => ?_)
      refine xo_nil ⟨⟨_, rfl⟩, List.forall_mem_cons.2 ⟨pvl_none (rl_own (q := 2) tk22 rfl rfl rfl), fun _ hp => (by cases hp)⟩, ?_⟩
      refine xa_env (ρ' := [(17, _), (18, _), (25, _), (24, _), (23, _), (22, _), (21, _), (20, _), (19, _), (1, _), (2, _), (3, _), (4, _), (10, _), (11, _), (12, _), (13, _), (14, _)]) rfl ?_
      refine xa_effect (by kernel_rfl) 9 rfl rfl (by kernel_rfl) [1, 8, 7, 0, 6, 5, 3, 4, 2] (by kernel_rfl) rfl (pp' := []) (pl' := []) (hid := []) rfl rfl rfl ?_
      refine xo_append_box (q := 1) (r := 0) (μ' := fun a1 c1 => [_, .row (.slice a1 _ c1) _ _ _ _, _, _, _]) rfl Try.underlying22 inf24 rfl (by decide) rfl rfl rfl rfl rfl (by simp [Value.oneCell']) (by unfold maxLen; omega) (by omega) (fun _ _ => rfl) (fun a26 c26 hcap26 => ?_)
      refine xo_nil ⟨⟨_, rfl⟩, fun _ hp => (by cases hp), ?_⟩
      refine xa_env (ρ' := [(26, _), (17, _), (18, _), (25, _), (24, _), (23, _), (22, _), (21, _), (20, _), (19, _), (1, _), (2, _), (3, _), (4, _), (10, _), (11, _), (12, _), (13, _), (14, _)]) rfl ?_
      refine xa_p (by kernel_rfl) 10 27 [3] rfl rfl rfl rfl rfl rfl rfl (pv_none (rn_fieldAddr tf24_2 rfl)) ?_
      refine xa_effect (by kernel_rfl) 11 rfl rfl (by kernel_rfl) [10, 9, 0, 1, 2, 3, 4, 5, 6, 7, 8] (by kernel_rfl) rfl (pp' := []) (pl' := []) (hid := []) rfl rfl rfl ?_
      refine xo_store (q := 2) (vs := [_]) (cs' := [_, _, _]) (μ' := [_, _, _, _, _]) tk22 rfl rfl rfl rfl rfl rfl rfl rfl rfl ?_
      refine xo_nil ⟨⟨undef, rfl⟩, fun _ hp => (by cases hp), ?_⟩
      refine xa_env (ρ' := [(27, _), (26, _), (17, _), (18, _), (25, _), (24, _), (23, _), (22, _), (21, _), (20, _), (19, _), (1, _), (2, _), (3, _), (4, _), (10, _), (11, _), (12, _), (13, _), (14, _)]) rfl ?_
      refine xa_end (by kernel_rfl) rfl (kblock_normal (kseq_normal ?_))
      refine x_region ?_
      refine xo_rn rfl (rn_move rfl) ?_
      refine xo_rn rfl (by first | exact rn_addN rfl rfl (by unfold i64; omega) | exact rn_add rfl rfl) ?_
      refine xo_rn rfl (rn_assign rfl) ?_
      refine xo_nil (kloop_normal ?_)
      refine ⟨((a26, c26), css ++ [[.int .i64 k2, .int .i64 n2, .slice a2 l2.length cap2]]), by simp; omega, ⟨by simp; omega, by simpa using hcap26, ?_⟩, ⟨by simp [eget], rfl, rfl, rfl, trivial⟩, ?_, rfl, hle.trans hle24⟩
      · rw [List.length_append, List.length_singleton, take_snoc' hlc]
        exact (hall.mono hle24).snoc hc2
      · simp only [List.length_append, List.length_cons, List.length_nil, Nat.zero_add, List.flatten_append, List.flatten_cons, List.flatten_nil, List.append_nil]
        exact .cons _ (.cons_cons _ (.cons_cons _ (.cons_cons _ (.cons_cons _ (.refl _)))))
    · have hc14b := hc14
      try rw [Bool.not_eq_true'] at hc14
      try rw [Bool.not_eq_false'] at hc14
      try rw [decide_eq_true_eq] at hc14
      try rw [decide_eq_false_iff_not] at hc14
      try rw [Int.not_lt] at hc14
      try rw [Int.not_le] at hc14
      refine x_exit (kseq_exit (kloop_exit (kblock_exit_here (kseq_normal ?_))))
      refine x_seq ?_
      refine x_region ?_
      refine xo_rl rfl (rl_own (q := 1) (v := .agg #[_, _, _]) tk24 rfl rfl rfl) ?_
      refine xo_store (q := 2) (vs := [_, _, _]) (cs' := [_, _, _]) (μ' := [_, _, _, _]) tk24 rfl rfl rfl rfl rfl rfl rfl rfl rfl ?_
      refine xo_nil (kseq_normal ?_)
      refine x_ret ?_
      obtain hl : css.length = ls.length := by omega
      rw [hl, List.take_length] at hall
      refine ⟨rfl, [_], .cons (.cell (q := 2) (v := .agg #[_, _, _]) rfl rfl tk24 rfl) .nil, ?_⟩
      refine fin_row (q := 0) rfl (fun m2 hle2 hrow => ?_)
      refine fin_done (ret_tup1 ⟨_, rfl, ?_⟩)
      simp only [LvV]
      exact ⟨hk, hn, a0, c0, by rw [hl], ⟨by omega, hlen⟩, (hall.mono hle2).made hrow⟩

theorem SameLevel_spec (x : Lv) : ∀ (y : Lv) (m : Mem) (cs ds : List Value), LvV m x cs → LvV m y ds → Scal Try.prog 23 #[.agg cs.toArray, .agg ds.toArray] m (.bool (sameL x y)) := by
  induction x using Lv.ind with
  | _ k nn ls ih =>
    intro y m cs ds hx hy
    refine scal_of ?_
    obtain ⟨_, _, _, a, cap, ⟨rfl, rfl, rfl⟩, rfl, hk, hn, hlen, hat⟩ := hx.open
    obtain ⟨k2, nn2, ls2, a2, cap2, rfl, rfl, hk2, hn2, hlen2, hat2⟩ := hy.open
    refine spec_body (vs := [_, _]) Try.func23 rfl Try.ntmps23 rfl (fun E => ?_)
    refine x_seq ?_
    refine x_region ?_
    refine xo_box rfl rfl (cs := [_, _, _]) rfl (fun b2 => ?_)
    refine xo_box rfl rfl (cs := [_, _, _]) rfl (fun b3 => ?_)
    refine xo_rn rfl (rn_assign rfl) ?_
    refine xo_nil (kseq_normal ?_)
    refine x_seq ?_
    refine x_seq ?_
    refine x_region ?_
    refine xo_rn rfl (rn_fieldAddr tf24_0 rfl) ?_
    refine xo_rl rfl (rl_own (q := 1) tk3 rfl rfl rfl) ?_
    refine xo_rn rfl (rn_fieldAddr tf24_0 rfl) ?_
    refine xo_rl rfl (rl_own (q := 0) tk3 rfl rfl rfl) ?_
    refine xo_rn rfl (rn_neq rfl rfl) ?_
    refine xo_rn rfl (rn_move rfl) ?_
    refine xo_guard rfl rfl (fun hg11 => ?_) (fun hg11 => ?_) rfl
    · have hg11_p := hg11
      try rw [Bool.not_eq_true'] at hg11_p
      try rw [Bool.not_eq_false'] at hg11_p
      try rw [decide_eq_true_eq] at hg11_p
      try rw [decide_eq_false_iff_not] at hg11_p
      try rw [Int.not_lt] at hg11_p
      try rw [Int.not_le] at hg11_p
      refine xo_rn rfl (rn_fieldAddr tf24_1 rfl) ?_
      refine xo_guard_yes rfl rfl hg11 ?_ rfl
      refine xo_rl rfl (rl_own (q := 1) tk3 rfl rfl rfl) ?_
      refine xo_guard_yes rfl rfl hg11 ?_ rfl
      refine xo_rn rfl (rn_fieldAddr tf24_1 rfl) ?_
      refine xo_guard_yes rfl rfl hg11 ?_ rfl
      refine xo_rl rfl (rl_own (q := 0) tk3 rfl rfl rfl) ?_
      refine xo_guard_yes rfl rfl hg11 ?_ rfl
      refine xo_rn rfl (rn_neq rfl rfl) ?_
      refine xo_rn rfl (rn_pick_f rfl hg11 rfl) ?_
      refine xo_rn rfl (rn_move rfl) ?_
      refine xo_guard rfl rfl (fun hg18 => ?_) (fun hg18 => ?_) rfl
      · have hg18_p := hg18
        try rw [Bool.not_eq_true'] at hg18_p
        try rw [Bool.not_eq_false'] at hg18_p
        try rw [decide_eq_true_eq] at hg18_p
        try rw [decide_eq_false_iff_not] at hg18_p
        try rw [Int.not_lt] at hg18_p
        try rw [Int.not_le] at hg18_p
        refine xo_rn rfl (rn_fieldAddr tf24_2 rfl) ?_
        refine xo_guard_yes rfl rfl hg18 ?_ rfl
        refine xo_rl rfl (rl_own (q := 1) tk22 rfl rfl rfl) ?_
        refine xo_guard_yes rfl rfl hg18 ?_ rfl
        refine xo_rn rfl (rn_len_slice tsl22 rfl) ?_
        refine xo_guard_yes rfl rfl hg18 ?_ rfl
        refine xo_rn rfl (rn_fieldAddr tf24_2 rfl) ?_
        refine xo_guard_yes rfl rfl hg18 ?_ rfl
        refine xo_rl rfl (rl_own (q := 0) tk22 rfl rfl rfl) ?_
        refine xo_guard_yes rfl rfl hg18 ?_ rfl
        refine xo_rn rfl (rn_len_slice tsl22 rfl) ?_
        refine xo_guard_yes rfl rfl hg18 ?_ rfl
        refine xo_rn rfl (rn_neq rfl rfl) ?_
        refine xo_rn rfl (rn_pick_f rfl hg18 rfl) ?_
        refine xo_nil (kseq_normal ?_)
        refine x_cond rfl (fun hc26 => ?_) (fun hc26 => ?_)
        · have hc26b := hc26
          try rw [Bool.not_eq_true'] at hc26
          try rw [Bool.not_eq_false'] at hc26
          try rw [decide_eq_true_eq] at hc26
          try rw [decide_eq_false_iff_not] at hc26
          try rw [Int.not_lt] at hc26
          try rw [Int.not_le] at hc26
          refine x_seq ?_
          refine x_region ?_
          refine xo_rn rfl (rn_assign rfl) ?_
          refine xo_nil (kseq_normal ?_)
          refine x_ret (kseq_ret ?_)
          refine ⟨rfl, [_], .cons (.tmp rfl) (.nil), fin_drop (μ' := []) (List.nil_sublist _) (fin_done (ret_tup1 ?_))⟩
          simp [sameL, hg11_p, hg18_p]
          omega
        · have hc26b := hc26
          try rw [Bool.not_eq_true'] at hc26
          try rw [Bool.not_eq_false'] at hc26
          try rw [decide_eq_true_eq] at hc26
          try rw [decide_eq_false_iff_not] at hc26
          try rw [Int.not_lt] at hc26
          try rw [Int.not_le] at hc26
          refine x_skip (kseq_normal ?_)
          refine x_seq ?_
          refine x_seq ?_
          refine x_region ?_
          refine xo_rn rfl (rn_assign rfl) ?_
          refine xo_nil (kseq_normal ?_)
          refine x_block ?_
          have hll : ls.length = ls2.length := by omega
          have hsame : sameL (.mk k nn ls) (.mk k2 nn2 ls2) = sameLs ls ls2 := by simp [sameL, hg11_p, hg18_p, hll]
          refine x_loop (G := Nat) (fun g => [(5, .int .i64 (g : Int)), (3, .pointer (some ⟨b3, 0, none⟩)), (2, .pointer (some ⟨b2, 0, none⟩))])
            (fun g => [bx b3 24 [.int .i64 k2, .int .i64 nn2, .slice a2 ls2.length cap2], bx b2 24 [.int .i64 k, .int .i64 nn, .slice a ls.length cap]]) (fun g m' => g ≤ ls.length ∧ sameLs (ls.drop g) (ls2.drop g) = sameLs ls ls2) (fun g => ls.length - g) 0
            ⟨by simp, by simp⟩ ⟨rfl, rfl, rfl, trivial⟩ (.cons_cons _ (.cons_cons _ (.refl _))) ?_
          rintro i m' ⟨hi, hs⟩ hle
          refine x_seq ?_
          refine x_seq ?_
          refine x_region ?_
          refine xo_rn rfl (rn_move rfl) ?_
          refine xo_rn rfl (rn_fieldAddr tf24_2 rfl) ?_
          refine xo_rl rfl (rl_own (q := 1) tk22 rfl rfl rfl) ?_
          refine xo_rn rfl (rn_len_slice tsl22 rfl) ?_
          refine xo_rn rfl (rn_lss rfl rfl) ?_
          refine xo_nil (kseq_normal ?_)
          refine x_cond rfl (fun hc31 => ?_) (fun hc31 => ?_)
          · have hc31b := hc31
            try rw [Bool.not_eq_true'] at hc31
            try rw [Bool.not_eq_false'] at hc31
            try rw [decide_eq_true_eq] at hc31
            try rw [decide_eq_false_iff_not] at hc31
            try rw [Int.not_lt] at hc31
            try rw [Int.not_le] at hc31
            refine x_skip (kseq_normal ?_)
            refine x_seq ?_
            refine x_block ?_
            refine x_seq ?_
            refine x_env (ρ' := [(2, _), (3, _), (5, _), (27, _), (28, _), (29, _), (30, _), (31, _)]) ⟨rfl, rfl, rfl, rfl, rfl, rfl, rfl, rfl, trivial⟩ ?_
            refine x_region_draw (by kernel_rfl) ?_
            refine xa_p (by kernel_rfl) 0 34 [2] rfl rfl rfl rfl rfl rfl rfl (pv_none (rn_fieldAddr tf24_2 rfl)) ?_
            refine xa_l (by kernel_rfl) 1 35 [34] rfl rfl rfl rfl rfl rfl rfl (pvl_none (rl_own (q := 1) tk22 rfl rfl rfl)) ?_
            refine xa_p (by kernel_rfl) 2 36 [5] rfl rfl rfl rfl rfl rfl rfl (pv_none (rn_move rfl)) ?_
            have hi' : i < ls.length := by omega
            obtain ⟨lc, hlc⟩ : ∃ lc, ls[i]? = some lc := ⟨_, List.getElem?_eq_getElem hi'⟩
            obtain ⟨b, off, k1, n1, l1, a1, cap1, rfl, rfl, hrd, hlv⟩ := hat _ lc hlc
            obtain ⟨ld, hld⟩ : ∃ lc, ls2[i]? = some lc := ⟨_, List.getElem?_eq_getElem (by omega)⟩
            obtain ⟨b', off', k1', n1', l1', a1', cap1', rfl, rfl, hrd', hlv'⟩ := hat2 _ ld hld
            refine xa_p (by kernel_rfl) 3 37 [35, 36] rfl rfl rfl rfl rfl rfl rfl (pv_none (rn_indexAddr (q := i) tsl22 rfl rfl rfl hi')) ?_
            refine xa_l (by kernel_rfl) 4 38 [37] rfl rfl rfl rfl rfl rfl rfl (pvl_none (rl_memN tk24 rfl (hrd.mono hle) rfl)) ?_
            refine xa_p (by kernel_rfl) 5 39 [3] rfl rfl rfl rfl rfl rfl rfl (pv_none (rn_fieldAddr tf24_2 rfl)) ?_
            refine xa_l (by kernel_rfl) 6 40 [39] rfl rfl rfl rfl rfl rfl rfl (pvl_none (rl_own (q := 0) tk22 rfl rfl rfl)) ?_
            refine xa_p (by kernel_rfl) 7 41 [5] rfl rfl rfl rfl rfl rfl rfl (pv_none (rn_move rfl)) ?_
            refine xa_p (by kernel_rfl) 8 42 [40, 41] rfl rfl rfl rfl rfl rfl rfl (pv_none (rn_indexAddr (q := i) tsl22 rfl rfl rfl (by omega))) ?_
            refine xa_l (by kernel_rfl) 9 43 [42] rfl rfl rfl rfl rfl rfl rfl (pvl_none (rl_memN tk24 rfl (hrd'.mono hle) rfl)) ?_
            refine xa_effect (by kernel_rfl) 10 rfl rfl (by kernel_rfl) [4, 9, 3, 8, 1, 2, 6, 7, 0, 5] (by kernel_rfl) rfl (pp' := []) (pl' := []) (hid := []) rfl rfl rfl ?_
            refine xo_callS rfl cl23 (vs := [_, _]) rfl (ih _ (List.mem_of_getElem? hlc) _ _ _ _ (hlv.mono hle) (hlv'.mono hle)) ?_
            refine xo_nil ⟨⟨_, rfl⟩, fun _ hp => (by cases hp), ?_⟩
            refine xa_env (ρ' := [(44, _), (43, _), (42, _), (41, _), (40, _), (39, _), (38, _), (37, _), (36, _), (35, _), (34, _), (2, _), (3, _), (5, _), (27, _), (28, _), (29, _), (30, _), (31, _)]) rfl ?_
            refine xa_p (by kernel_rfl) 11 45 [44] rfl rfl rfl rfl rfl rfl rfl (pv_none (rn_not rfl)) ?_
            refine xa_end (by kernel_rfl) rfl (kseq_normal ?_)
            refine x_cond rfl (fun hc45 => ?_) (fun hc45 => ?_)
            · have hc45b := hc45
              try rw [Bool.not_eq_true'] at hc45
              try rw [Bool.not_eq_false'] at hc45
              try rw [decide_eq_true_eq] at hc45
              try rw [decide_eq_false_iff_not] at hc45
              try rw [Int.not_lt] at hc45
              try rw [Int.not_le] at hc45
              refine x_seq ?_
              refine x_region ?_
              refine xo_rn rfl (rn_assign rfl) ?_
              refine xo_nil (kseq_normal ?_)
              refine x_ret (kblock_ret (kseq_ret (kloop_ret (kblock_ret (kseq_ret ?_)))))
              refine ⟨rfl, [_], .cons (.tmp rfl) (.nil), fin_drop (μ' := []) (List.nil_sublist _) (fin_done (ret_tup1 ?_))⟩
              rw [sameLs_drop hlc hld, hc45, Bool.false_and] at hs
              rw [hsame, ← hs]
            · have hc45b := hc45
              try rw [Bool.not_eq_true'] at hc45
              try rw [Bool.not_eq_false'] at hc45
              try rw [decide_eq_true_eq] at hc45
              try rw [decide_eq_false_iff_not] at hc45
              try rw [Int.not_lt] at hc45
              try rw [Int.not_le] at hc45
              refine x_skip (kblock_normal (kseq_normal ?_))
              refine x_region ?_
              refine xo_rn rfl (rn_move rfl) ?_
              refine xo_rn rfl (by first | exact rn_addN rfl rfl (by unfold i64; omega) | exact rn_add rfl rfl) ?_
              refine xo_rn rfl (rn_assign rfl) ?_
              refine xo_nil (kloop_normal ?_)
              refine ⟨i + 1, by omega, ⟨hi', ?_⟩, ⟨rfl, rfl, rfl, trivial⟩, .cons_cons _ (.cons_cons _ (.refl _)), rfl, hle⟩
              rw [← hs, sameLs_drop hlc hld, hc45, Bool.true_and]
          · have hc31b := hc31
            try rw [Bool.not_eq_true'] at hc31
            try rw [Bool.not_eq_false'] at hc31
            try rw [decide_eq_true_eq] at hc31
            try rw [decide_eq_false_iff_not] at hc31
            try rw [Int.not_lt] at hc31
            try rw [Int.not_le] at hc31
            refine x_exit (kseq_exit (kloop_exit (kblock_exit_here (kseq_normal ?_))))
            refine x_seq ?_
            refine x_region ?_
            refine xo_rn rfl (rn_assign rfl) ?_
            refine xo_nil (kseq_normal ?_)
            refine x_ret ?_
            refine ⟨rfl, [_], .cons (.tmp rfl) (.nil), fin_drop (μ' := []) (List.nil_sublist _) (fin_done (ret_tup1 ?_))⟩
            rw [hsame, ← hs, List.drop_of_length_le (by omega)]
            rfl
      · replace hg18 := ne_f hg18
        have hg18_p := hg18
        try rw [Bool.not_eq_true'] at hg18_p
        try rw [Bool.not_eq_false'] at hg18_p
        try rw [decide_eq_true_eq] at hg18_p
        try rw [decide_eq_false_iff_not] at hg18_p
        try rw [Int.not_lt] at hg18_p
        try rw [Int.not_le] at hg18_p
        dsimp only [putU]
        refine xo_guard_no rfl rfl (by rw [hg18]; decide) rfl ?_
        refine xo_guard_no rfl rfl (by rw [hg18]; decide) rfl ?_
        refine xo_guard_no rfl rfl (by rw [hg18]; decide) rfl ?_
        refine xo_guard_no rfl rfl (by rw [hg18]; decide) rfl ?_
        refine xo_guard_no rfl rfl (by rw [hg18]; decide) rfl ?_
        refine xo_guard_no rfl rfl (by rw [hg18]; decide) rfl ?_
        refine xo_rn rfl (rn_pick_t rfl hg18 rfl) ?_
        refine xo_nil (kseq_normal ?_)
        refine x_cond_true rfl ?_
        refine x_seq ?_
        refine x_region ?_
        refine xo_rn rfl (rn_assign rfl) ?_
        refine xo_nil (kseq_normal ?_)
        refine x_ret (kseq_ret ?_)
        refine ⟨rfl, [_], .cons (.tmp rfl) (.nil), fin_drop (μ' := []) (List.nil_sublist _) (fin_done (ret_tup1 ?_))⟩
        simp [sameL, hg18_p]
    · replace hg11 := ne_f hg11
      have hg11_p := hg11
      try rw [Bool.not_eq_true'] at hg11_p
      try rw [Bool.not_eq_false'] at hg11_p
      try rw [decide_eq_true_eq] at hg11_p
      try rw [decide_eq_false_iff_not] at hg11_p
      try rw [Int.not_lt] at hg11_p
      try rw [Int.not_le] at hg11_p
      dsimp only [putU]
      refine xo_guard_no rfl rfl (by rw [hg11]; decide) rfl ?_
      refine xo_guard_no rfl rfl (by rw [hg11]; decide) rfl ?_
      refine xo_guard_no rfl rfl (by rw [hg11]; decide) rfl ?_
      refine xo_guard_no rfl rfl (by rw [hg11]; decide) rfl ?_
      refine xo_rn rfl (rn_pick_t rfl hg11 rfl) ?_
      refine xo_rn rfl (rn_move rfl) ?_
      refine xo_guard_no rfl rfl (by decide) rfl ?_
      refine xo_guard_no rfl rfl (by decide) rfl ?_
      refine xo_guard_no rfl rfl (by decide) rfl ?_
      refine xo_guard_no rfl rfl (by decide) rfl ?_
      refine xo_guard_no rfl rfl (by decide) rfl ?_
      refine xo_guard_no rfl rfl (by decide) rfl ?_
      refine xo_guard_no rfl rfl (by decide) rfl ?_
      refine xo_rn rfl (rn_pick_t rfl rfl rfl) ?_
      refine xo_nil (kseq_normal ?_)
      refine x_cond_true rfl ?_
      refine x_seq ?_
      refine x_region ?_
      refine xo_rn rfl (rn_assign rfl) ?_
      refine xo_nil (kseq_normal ?_)
      refine x_ret (kseq_ret ?_)
      refine ⟨rfl, [_], .cons (.tmp rfl) (.nil), fin_drop (μ' := []) (List.nil_sublist _) (fin_done (ret_tup1 ?_))⟩
      simp [sameL, hg11_p]

end Go.Proofs.Ytagilgmgacpffaa

/-
  Contracts of levels in place of parameters.
-/
import Derived.Test.YtagilgmgacpffaaLvm
namespace Go.Proofs.Ytagilgmgacpffaa
open Go Go.Gw

theorem inst_spec (l : Lv) : ∀ (bys : List Lv) (m : Mem) (cs : List Value) (sv : Value), LvV m l cs → LvsS m bys sv → allF l bys.length = true → Cspec Try.prog 39 #[.agg cs.toArray, sv] m [] (Ret (LvOut (instF l bys))) := by
  induction l using Lv.ind with
  | _ k nn ls ih =>
    intro bys m cs sv hl hb hall
    have hb0 := hb
    obtain ⟨_, _, _, a, cap, ⟨rfl, rfl, rfl⟩, rfl, hk, hn, hlen, hat⟩ := hl.open
    obtain ⟨ba, bcap, rfl, hbcap, hblen, hbat⟩ := hb.open
    refine spec_body (vs := [_, _]) Try.func39 rfl Try.ntmps39 rfl (fun E => ?_)
    refine x_seq ?_
    refine x_region ?_
    refine xo_box rfl rfl (cs := [_, _, _]) rfl (fun b2 => ?_)
    refine xo_alloc rfl tz24 (cs := [_, _, _]) rfl (fun b4 => ?_)
    refine xo_nil (kseq_normal ?_)
    refine x_seq ?_
    refine x_seq ?_
    refine x_region ?_
    refine xo_rn rfl (rn_fieldAddr tf24_0 rfl) ?_
    refine xo_rl rfl (rl_own (q := 1) tk3 rfl rfl rfl) ?_
    refine xo_rn rfl (rn_eql rfl rfl) ?_
    refine xo_nil (kseq_normal ?_)
    refine x_cond rfl (fun hc10 => ?_) (fun hc10 => ?_)
    · have hc10b := hc10
      try rw [Bool.not_eq_true'] at hc10
      try rw [Bool.not_eq_false'] at hc10
      try rw [decide_eq_true_eq] at hc10
      try rw [decide_eq_false_iff_not] at hc10
      try rw [Int.not_lt] at hc10
      try rw [Int.not_le] at hc10
      refine x_seq ?_
      refine x_region ?_
      refine xo_rn rfl (rn_move rfl) ?_
      refine xo_rn rfl (rn_fieldAddr tf24_1 rfl) ?_
      refine xo_rl rfl (rl_own (q := 1) tk3 rfl rfl rfl) ?_
      obtain ⟨h0, h4⟩ := all_param hall hc10
      obtain ⟨lc, hlc⟩ : ∃ lc, bys[nn.toNat]? = some lc := ⟨_, List.getElem?_eq_getElem (by omega)⟩
      obtain ⟨b, off, k1, n1, l1, a1, cap1, rfl, rfl, hrd, hlv⟩ := hbat _ lc hlc
      refine xo_rn rfl (rn_indexAddr (q := nn.toNat) tsl22 rfl rfl (by omega) (by omega)) ?_
      refine xo_rl rfl (rl_memN tk24 rfl (hrd) rfl) ?_
      refine xo_call0 rfl cl42 (vs := [_]) rfl (copied_spec _ _ _ hlv) (fun v16 m16 _ hle16 hq16 => ?_)
      obtain ⟨c2, rfl, hc2⟩ := hq16
      obtain ⟨k3, n3, l3, a3, cap3, heq, rfl, -, -, -, -⟩ := hc2.open
      refine xo_store (q := 0) (vs := [_, _, _]) (cs' := [_, _, _]) (μ' := [_, _]) tk24 rfl rfl rfl rfl rfl rfl rfl rfl rfl ?_
      refine xo_nil (kseq_normal ?_)
      refine x_ret (kseq_ret ?_)
      refine ⟨rfl, [_], .cons (.cell (q := 0) (v := .agg #[_, _, _]) rfl rfl tk24 rfl) (.nil), fin_drop (μ' := []) (List.nil_sublist _) (fin_done (ret_tup1 ?_))⟩
      refine ⟨_, rfl, ?_⟩
      have e : instF (.mk k nn ls) bys = Lv.mk k1 n1 l1 := by simp [instF, instNode, hc10, hlc]
      rw [e]
      exact hc2
    · have hc10b := hc10
      try rw [Bool.not_eq_true'] at hc10
      try rw [Bool.not_eq_false'] at hc10
      try rw [decide_eq_true_eq] at hc10
      try rw [decide_eq_false_iff_not] at hc10
      try rw [Int.not_lt] at hc10
      try rw [Int.not_le] at hc10
      refine x_skip (kseq_normal ?_)
      refine x_seq ?_
      refine x_region ?_
      refine xo_rn rfl (rn_fieldAddr tf24_0 rfl) ?_
      refine xo_rl rfl (rl_own (q := 1) tk3 rfl rfl rfl) ?_
      refine xo_rn rfl (rn_fieldAddr tf24_1 rfl) ?_
      refine xo_rl rfl (rl_own (q := 1) tk3 rfl rfl rfl) ?_
      refine xo_rn rfl (rn_build (pv := [(_, _), (_, _)]) (zs := [_, _, _]) (cs := [_, _, _]) tpl24 tz24 rfl rfl rfl) ?_
      refine xo_alloc rfl tz24 (cs := [_, _, _]) rfl (fun b5 => ?_)
      refine xo_store (q := 0) (vs := [_, _, _]) (cs' := [_, _, _]) (μ' := [_, _, _]) tk24 rfl rfl rfl rfl rfl rfl rfl rfl rfl ?_
      refine xo_nil (kseq_normal ?_)
      refine x_seq ?_
      refine x_seq ?_
      refine x_region ?_
      refine xo_rn rfl (rn_fieldAddr tf24_2 rfl) ?_
      refine xo_rl rfl (rl_own (q := 2) tk22 rfl rfl rfl) ?_
      refine xo_rn rfl (rn_len_slice tsl22 rfl) ?_
      refine xo_rn rfl (rn_move rfl) ?_
      refine xo_nil (kseq_normal ?_)
      refine x_block ?_
      refine x_nilRow 24 3 ?_
      refine x_loop (G := (Option Addr × Nat) × List (List Value)) (fun g => [(25, .int .i64 (g.2.length : Int)), (24, .int .i64 (ls.length : Int)), (23, .slice a ls.length cap), (5, .pointer (some ⟨b5, 0, none⟩)), (4, .pointer (some ⟨b4, 0, none⟩)), (1, .slice ba bys.length bcap)])
        (fun g => [.row (.slice g.1.1 g.2.length g.1.2) 24 3 g.2.length g.2.flatten, bx b5 24 [.int .i64 k, .int .i64 nn, .slice g.1.1 g.2.length g.1.2], bx b4 24 [.int .i64 0, .int .i64 0, .slice none 0 0]])
        (fun g m' => g.2.length ≤ ls.length ∧ g.2.length ≤ g.1.2 ∧ LvAll m' (instFs (ls.take g.2.length) bys) g.2) (fun g => ls.length - g.2.length) ((none, 0), [])
        ⟨by simp, by simp, by simp [LvAll, instFs]⟩ ⟨rfl, rfl, rfl, rfl, rfl, rfl, trivial⟩ (.cons_cons _ (.cons_cons _ (.cons_cons _ (.cons _ (.refl _))))) ?_
      rintro ⟨⟨a0, c0⟩, css⟩ m' ⟨hi, hic, hcs⟩ hle
      dsimp only at hi hic hcs ⊢
      refine x_seq ?_
      refine x_region ?_
      refine xo_rn rfl (rn_lss rfl rfl) ?_
      refine xo_nil (kseq_normal ?_)
      refine x_seq ?_
      refine x_cond rfl (fun hc26 => ?_) (fun hc26 => ?_)
      · have hc26b := hc26
        try rw [Bool.not_eq_true'] at hc26
        try rw [Bool.not_eq_false'] at hc26
        try rw [decide_eq_true_eq] at hc26
        try rw [decide_eq_false_iff_not] at hc26
        try rw [Int.not_lt] at hc26
        try rw [Int.not_le] at hc26
        refine x_skip (kseq_normal ?_)
        refine x_seq ?_
        refine x_block ?_
        refine x_seq ?_
        refine x_region ?_
        have hi' : css.length < ls.length := by omega
        obtain ⟨lc, hlc⟩ : ∃ lc, ls[css.length]? = some lc := ⟨_, List.getElem?_eq_getElem hi'⟩
        obtain ⟨b, off, k1, n1, l1, a1, cap1, rfl, rfl, hrd, hlv⟩ := hat _ lc hlc
        refine xo_rn rfl (rn_indexAddr (q := css.length) tsl22 rfl rfl rfl hi') ?_
        refine xo_rl rfl (rl_memN tk24 rfl (hrd.mono hle) rfl) ?_
        refine xo_alloc rfl tz24 (cs := [_, _, _]) rfl (fun b7 => ?_)
        refine xo_store (q := 0) (vs := [_, _, _]) (cs' := [_, _, _]) (μ' := [_, _, _, _]) tk24 rfl rfl rfl rfl rfl rfl rfl rfl rfl ?_
        refine xo_nil (kseq_normal ?_)
        refine x_env (ρ' := [(1, _), (4, _), (5, _), (7, _), (23, _), (24, _), (25, _), (26, _), (27, _), (28, _)]) ⟨rfl, rfl, rfl, rfl, rfl, rfl, rfl, rfl, rfl, rfl, trivial⟩ ?_
        refine x_region_draw (by kernel_rfl) ?_
        refine xa_p (by kernel_rfl) 0 29 [5] rfl rfl rfl rfl rfl rfl rfl (pv_none (rn_fieldAddr tf24_2 rfl)) ?_
        refine xa_l (by kernel_rfl) 1 30 [29] rfl rfl rfl rfl rfl rfl rfl (pvl_none (rl_own (q := 2) tk22 rfl rfl rfl)) ?_
        refine xa_l (by kernel_rfl) 2 31 [7] rfl rfl rfl rfl rfl rfl rfl (pvl_none (rl_own (q := 0) (v := .agg #[_, _, _]) tk24 rfl rfl rfl)) ?_
        refine xa_p (by kernel_rfl) 3 32 [1] rfl rfl rfl rfl rfl rfl rfl (pv_none (rn_move rfl)) ?_
        refine xa_effect (by kernel_rfl) 4 rfl rfl (by kernel_rfl) [2, 3] (by kernel_rfl) rfl (pp' := [_]) (pl' := [_]) (hid := [29, 30]) rfl rfl rfl ?_
        refine xo_call0 rfl cl39 (vs := [_, _]) rfl (ih _ (List.mem_of_getElem? hlc) _ _ _ _ (hlv.mono hle) (hb0.mono hle) (all_arg hall hlc)) (fun v33 m33 _ hle33 hq33 => ?_)
        obtain ⟨c2, rfl, hc2⟩ := hq33
        have hc2' := hc2
        obtain ⟨k2, n2, l2, a2, cap2, heq, rfl, -, -, -, -⟩ := hc2'.open
        refine xo_nil ⟨⟨_, rfl⟩, List.forall_mem_cons.2 ⟨pvl_none (rl_own (q := 2) tk22 rfl rfl rfl), fun _ hp => (by cases hp)⟩, ?_⟩
        refine xa_env (ρ' := [(29, _), (30, _), (33, _), (32, _), (31, _), (1, _), (4, _), (5, _), (7, _), (23, _), (24, _), (25, _), (26, _), (27, _), (28, _)]) rfl ?_
        refine xa_effect (by kernel_rfl) 5 rfl rfl (by kernel_rfl) [] (by kernel_rfl) rfl (pp' := [_]) (pl' := [_]) (hid := [29, 30]) rfl rfl rfl ?_
        refine xo_buildSlice (pv := [(_, _)]) (zs := [_, _, _]) (cs := [_, _, _]) rfl tsl22 tz24 rfl rfl rfl rfl (fun b34 => ?_)
        refine xo_nil ⟨⟨_, rfl⟩, List.forall_mem_cons.2 ⟨pvl_none (rl_own (q := 3) tk22 rfl rfl rfl), fun _ hp => (by cases hp)⟩, ?_⟩
        refine xa_env (ρ' := [(29, _), (30, _), (34, _), (33, _), (32, _), (31, _), (1, _), (4, _), (5, _), (7, _), (23, _), (24, _), (25, _), (26, _), (27, _), (28, _)]) rfl ?_
        refine xa_effect (by kernel_rfl) 6 rfl rfl (by kernel_rfl) [1, 5, 4, 0, 2, 3] (by kernel_rfl) rfl (pp' := []) (pl' := []) (hid := []) rfl rfl rfl ?_
        refine xo_append_box (q := 2) (r := 0) (μ' := fun a1 c1 => [_, _, .row (.slice a1 _ c1) _ _ _ _, _, _]) rfl Try.underlying22 inf24 rfl (by decide) rfl rfl rfl rfl rfl (by simp [Value.oneCell']) (by unfold maxLen; omega) (by omega) (fun _ _ => rfl) (fun a35 c35 hcap35 => ?_)
        refine xo_nil ⟨⟨_, rfl⟩, fun _ hp => (by cases hp), ?_⟩
        refine xa_env (ρ' := [(35, _), (29, _), (30, _), (34, _), (33, _), (32, _), (31, _), (1, _), (4, _), (5, _), (7, _), (23, _), (24, _), (25, _), (26, _), (27, _), (28, _)]) rfl ?_
        refine xa_p (by kernel_rfl) 7 36 [5] rfl rfl rfl rfl rfl rfl rfl (pv_none (rn_fieldAddr tf24_2 rfl)) ?_
        refine xa_effect (by kernel_rfl) 8 rfl rfl (by kernel_rfl) [7, 6, 0, 1, 2, 3, 4, 5] (by kernel_rfl) rfl (pp' := []) (pl' := []) (hid := []) rfl rfl rfl ?_
        refine xo_store (q := 3) (vs := [_]) (cs' := [_, _, _]) (μ' := [_, _, _, _, _]) tk22 rfl rfl rfl rfl rfl rfl rfl rfl rfl ?_
        refine xo_nil ⟨⟨undef, rfl⟩, fun _ hp => (by cases hp), ?_⟩
        refine xa_env (ρ' := [(36, _), (35, _), (29, _), (30, _), (34, _), (33, _), (32, _), (31, _), (1, _), (4, _), (5, _), (7, _), (23, _), (24, _), (25, _), (26, _), (27, _), (28, _)]) rfl ?_
        refine xa_end (by kernel_rfl) rfl (kblock_normal (kseq_normal ?_))
        refine x_region ?_
        refine xo_rn rfl (by first | exact rn_addN rfl rfl (by unfold i64; omega) | exact rn_add rfl rfl) ?_
        refine xo_rn rfl (rn_move rfl) ?_
        refine xo_nil (kloop_normal ?_)
        refine ⟨((a35, c35), css ++ [[.int .i64 k2, .int .i64 n2, .slice a2 l2.length cap2]]), by simp; omega, ⟨by simp; omega, by simpa using hcap35, ?_⟩, ⟨by simp [eget], rfl, rfl, rfl, rfl, rfl, trivial⟩, ?_, rfl, hle.trans hle33⟩
        · rw [List.length_append, List.length_singleton, instFs_take _ _ _ hlc]
          exact (hcs.mono hle33).snoc hc2
        · simp only [List.length_append, List.length_cons, List.length_nil, Nat.zero_add, List.flatten_append, List.flatten_cons, List.flatten_nil, List.append_nil]
          exact .cons _ (.cons _ (.cons_cons _ (.cons_cons _ (.cons_cons _ (.refl _)))))
      · have hc26b := hc26
        try rw [Bool.not_eq_true'] at hc26
        try rw [Bool.not_eq_false'] at hc26
        try rw [decide_eq_true_eq] at hc26
        try rw [decide_eq_false_iff_not] at hc26
        try rw [Int.not_lt] at hc26
        try rw [Int.not_le] at hc26
        refine x_exit (kseq_exit (kloop_exit (kblock_exit_here (kseq_normal ?_))))
        refine x_seq ?_
        refine x_region ?_
        refine xo_rl rfl (rl_own (q := 1) (v := .agg #[_, _, _]) tk24 rfl rfl rfl) ?_
        refine xo_store (q := 2) (vs := [_, _, _]) (cs' := [_, _, _]) (μ' := [_, _, _]) tk24 rfl rfl rfl rfl rfl rfl rfl rfl rfl ?_
        refine xo_nil (kseq_normal ?_)
        refine x_ret ?_
        obtain hl : css.length = ls.length := by omega
        rw [hl, List.take_length] at hcs
        refine ⟨rfl, [_], .cons (.cell (q := 2) (v := .agg #[_, _, _]) rfl rfl tk24 rfl) .nil, ?_⟩
        refine fin_row (q := 0) rfl (fun m2 hle2 hrow => ?_)
        refine fin_done (ret_tup1 ⟨_, rfl, ?_⟩)
        have e : instF (.mk k nn ls) bys = .mk k nn (instFs ls bys) := by simp [instF, instNode, hc10]
        rw [e]
        simp only [LvV]
        exact ⟨hk, hn, a0, c0, by rw [hl, instFs_length], ⟨by rw [instFs_length]; omega, by rw [instFs_length]; omega⟩, (hcs.mono hle2).made hrow⟩

theorem grown_spec (l : Lv) : ∀ (bys : List Lv) (m : Mem) (cs : List Value) (sv : Value), LvV m l cs → LvsS m bys sv → allF l bys.length = true → sizeL l ≤ 100000 → Scal Try.prog 38 #[.agg cs.toArray, sv] m (.int .i64 (grownF l bys)) := by
  induction l using Lv.ind with
  | _ k nn ls ih =>
    intro bys m cs sv hl hb hall hsz
    refine scal_of ?_
    have hb0 := hb
    have hszs : sizeLs ls ≤ 100000 := by simp only [sizeL] at hsz; omega
    obtain ⟨_, _, _, a, cap, ⟨rfl, rfl, rfl⟩, rfl, hk, hn, hlen, hat⟩ := hl.open
    obtain ⟨ba, bcap, rfl, hbcap, hblen, hbat⟩ := hb.open
    refine spec_body (vs := [_, _]) Try.func38 rfl Try.ntmps38 rfl (fun E => ?_)
    refine x_seq ?_
    refine x_region ?_
    refine xo_box rfl rfl (cs := [_, _, _]) rfl (fun b2 => ?_)
    refine xo_rn rfl (rn_assign rfl) ?_
    refine xo_nil (kseq_normal ?_)
    refine x_seq ?_
    refine x_seq ?_
    refine x_region ?_
    refine xo_rn rfl (rn_fieldAddr tf24_0 rfl) ?_
    refine xo_rl rfl (rl_own (q := 0) tk3 rfl rfl rfl) ?_
    refine xo_rn rfl (rn_eql rfl rfl) ?_
    refine xo_nil (kseq_normal ?_)
    refine x_cond rfl (fun hc10 => ?_) (fun hc10 => ?_)
    · have hc10b := hc10
      try rw [Bool.not_eq_true'] at hc10
      try rw [Bool.not_eq_false'] at hc10
      try rw [decide_eq_true_eq] at hc10
      try rw [decide_eq_false_iff_not] at hc10
      try rw [Int.not_lt] at hc10
      try rw [Int.not_le] at hc10
      refine x_seq ?_
      refine x_region ?_
      refine xo_rn rfl (rn_move rfl) ?_
      refine xo_rn rfl (rn_fieldAddr tf24_1 rfl) ?_
      refine xo_rl rfl (rl_own (q := 0) tk3 rfl rfl rfl) ?_
      obtain ⟨h0, h4⟩ := all_param hall hc10
      obtain ⟨lc, hlc⟩ : ∃ lc, bys[nn.toNat]? = some lc := ⟨_, List.getElem?_eq_getElem (by omega)⟩
      obtain ⟨b, off, k1, n1, l1, a1, cap1, rfl, rfl, hrd, hlv⟩ := hbat _ lc hlc
      refine xo_rn rfl (rn_indexAddr (q := nn.toNat) tsl22 rfl rfl (by omega) (by omega)) ?_
      refine xo_rl rfl (rl_memN tk24 rfl (hrd) rfl) ?_
      refine xo_callS rfl cl21 (vs := [_]) rfl (Nodes_spec _ _ _ hlv) ?_
      refine xo_rn rfl (rn_assign rfl) ?_
      refine xo_nil (kseq_normal ?_)
      refine x_ret (kseq_ret ?_)
      refine ⟨rfl, [_], .cons (.tmp rfl) (.nil), fin_drop (μ' := []) (List.nil_sublist _) (fin_done (ret_tup1 ?_))⟩
      simp [grownF, grownNode, hc10, hlc]
    · have hc10b := hc10
      try rw [Bool.not_eq_true'] at hc10
      try rw [Bool.not_eq_false'] at hc10
      try rw [decide_eq_true_eq] at hc10
      try rw [decide_eq_false_iff_not] at hc10
      try rw [Int.not_lt] at hc10
      try rw [Int.not_le] at hc10
      refine x_skip (kseq_normal ?_)
      refine x_seq ?_
      refine x_region ?_
      refine xo_rn rfl (rn_assign rfl) ?_
      refine xo_nil (kseq_normal ?_)
      refine x_seq ?_
      refine x_seq ?_
      refine x_region ?_
      refine xo_rn rfl (rn_fieldAddr tf24_2 rfl) ?_
      refine xo_rl rfl (rl_own (q := 0) tk22 rfl rfl rfl) ?_
      refine xo_rn rfl (rn_len_slice tsl22 rfl) ?_
      refine xo_rn rfl (rn_move rfl) ?_
      refine xo_nil (kseq_normal ?_)
      refine x_block ?_
      refine x_loop (G := Nat) (fun g => [(20, .int .i64 (g : Int)), (19, .int .i64 (ls.length : Int)), (18, .slice a ls.length cap), (5, .int .i64 (1 + grownFs (ls.take g) bys)), (1, .slice ba bys.length bcap)])
        (fun g => []) (fun g m' => g ≤ ls.length) (fun g => ls.length - g) 0
        (by simp) ⟨rfl, rfl, rfl, rfl, rfl, trivial⟩ (List.nil_sublist _) ?_
      rintro i m' hi hle
      refine x_seq ?_
      refine x_region ?_
      refine xo_rn rfl (rn_lss rfl rfl) ?_
      refine xo_nil (kseq_normal ?_)
      refine x_seq ?_
      refine x_cond rfl (fun hc21 => ?_) (fun hc21 => ?_)
      · have hc21b := hc21
        try rw [Bool.not_eq_true'] at hc21
        try rw [Bool.not_eq_false'] at hc21
        try rw [decide_eq_true_eq] at hc21
        try rw [decide_eq_false_iff_not] at hc21
        try rw [Int.not_lt] at hc21
        try rw [Int.not_le] at hc21
        refine x_skip (kseq_normal ?_)
        refine x_seq ?_
        refine x_block ?_
        refine x_seq ?_
        refine x_region ?_
        have hi' : i < ls.length := by omega
        obtain ⟨lc, hlc⟩ : ∃ lc, ls[i]? = some lc := ⟨_, List.getElem?_eq_getElem hi'⟩
        obtain ⟨b, off, k1, n1, l1, a1, cap1, rfl, rfl, hrd, hlv⟩ := hat _ lc hlc
        have hgb := grownFs_bound (ls.take i) bys
        have hgt := sizeLs_take ls i
        have hgx := grownF_bound (.mk k1 n1 l1) bys
        have hgs := size_arg hsz hlc
        refine xo_rn rfl (rn_indexAddr (q := i) tsl22 rfl rfl rfl hi') ?_
        refine xo_rl rfl (rl_memN tk24 rfl (hrd.mono hle) rfl) ?_
        refine xo_alloc rfl tz24 (cs := [_, _, _]) rfl (fun b7 => ?_)
        refine xo_store (q := 0) (vs := [_, _, _]) (cs' := [_, _, _]) (μ' := [_]) tk24 rfl rfl rfl rfl rfl rfl rfl rfl rfl ?_
        refine xo_nil (kseq_normal ?_)
        refine x_region ?_
        refine xo_rn rfl (rn_move rfl) ?_
        refine xo_rl rfl (rl_own (q := 0) (v := .agg #[_, _, _]) tk24 rfl rfl rfl) ?_
        refine xo_rn rfl (rn_move rfl) ?_
        refine xo_callS rfl cl38 (vs := [_, _]) rfl (ih _ (List.mem_of_getElem? hlc) _ _ _ _ (hlv.mono hle) (hb0.mono hle) (all_arg hall hlc) hgs) ?_
        refine xo_rn rfl (by first | exact rn_addN rfl rfl (by unfold i64; omega) | exact rn_add rfl rfl) ?_
        refine xo_rn rfl (rn_assign rfl) ?_
        refine xo_nil (kblock_normal (kseq_normal ?_))
        refine x_region ?_
        refine xo_rn rfl (by first | exact rn_addN rfl rfl (by unfold i64; omega) | exact rn_add rfl rfl) ?_
        refine xo_rn rfl (rn_move rfl) ?_
        refine xo_nil (kloop_normal ?_)
        refine ⟨i + 1, by omega, by omega, ⟨rfl, rfl, rfl, ?_, rfl, trivial⟩, List.nil_sublist _, rfl, hle⟩
        show some _ = some _
        rw [grownFs_take _ _ _ hlc, Int.add_assoc]
      · have hc21b := hc21
        try rw [Bool.not_eq_true'] at hc21
        try rw [Bool.not_eq_false'] at hc21
        try rw [decide_eq_true_eq] at hc21
        try rw [decide_eq_false_iff_not] at hc21
        try rw [Int.not_lt] at hc21
        try rw [Int.not_le] at hc21
        refine x_exit (kseq_exit (kloop_exit (kblock_exit_here (kseq_normal ?_))))
        refine x_seq ?_
        refine x_region ?_
        refine xo_rn rfl (rn_move rfl) ?_
        refine xo_rn rfl (rn_assign rfl) ?_
        refine xo_nil (kseq_normal ?_)
        refine x_ret ?_
        refine ⟨rfl, [_], .cons (.tmp rfl) (.nil), fin_done (ret_tup1 ?_)⟩
        obtain rfl : i = ls.length := by omega
        rw [List.take_length]
        simp [grownF, grownNode, hc10]

def InstOut (r : Option Lv) (v : Value) (m' : Mem) (_ : Own) : Prop := match r with
  | some l => ∃ cs, v = .tuple #[.agg cs.toArray, .bool true] ∧ LvV m' l cs
  | none => v = .tuple #[.agg #[.int .i64 0, .int .i64 0, .slice none 0 0], .bool false]

theorem Inst_spec (l : Lv) (bys : List Lv) (m : Mem) (cs : List Value) (sv : Value) (hl : LvV m l cs) (hb : LvsS m bys sv) : Cspec Try.prog 24 #[.agg cs.toArray, sv] m [] (Ret (InstOut (InstF l bys))) := by
  have hl0 := hl
  have hb0 := hb
  obtain ⟨k, nn, ls, a, cap, rfl, rfl, hk, hn, hlen, hat⟩ := hl.open
  obtain ⟨ba, bcap, rfl, hbcap, hblen, hbat⟩ := hb.open
  refine spec_body (vs := [_, _]) Try.func24 rfl Try.ntmps24 rfl (fun E => ?_)
  refine x_seq ?_
  refine x_region ?_
  refine xo_box rfl rfl (cs := [_, _, _]) rfl (fun b2 => ?_)
  refine xo_alloc rfl tz24 (cs := [_, _, _]) rfl (fun b4 => ?_)
  refine xo_rn rfl (rn_assign rfl) ?_
  refine xo_nil (kseq_normal ?_)
  refine x_seq ?_
  refine x_seq ?_
  refine x_region ?_
  refine xo_rl rfl (rl_own (q := 1) (v := .agg #[_, _, _]) tk24 rfl rfl rfl) ?_
  refine xo_rn rfl (rn_move rfl) ?_
  refine xo_rn rfl (rn_len_slice tsl22 rfl) ?_
  refine xo_callS rfl cl13 (vs := [_, _]) rfl (Right_spec _ _ _ _ hl0) ?_
  refine xo_rn rfl (rn_not rfl) ?_
  refine xo_nil (kseq_normal ?_)
  refine x_cond rfl (fun hc12 => ?_) (fun hc12 => ?_)
  · have hc12b := hc12
    try rw [Bool.not_eq_true'] at hc12
    try rw [Bool.not_eq_false'] at hc12
    try rw [decide_eq_true_eq] at hc12
    try rw [decide_eq_false_iff_not] at hc12
    try rw [Int.not_lt] at hc12
    try rw [Int.not_le] at hc12
    refine x_seq ?_
    refine x_region ?_
    refine xo_rn rfl (rn_build (pv := []) (zs := [_, _, _]) (cs := [_, _, _]) tpl24 tz24 rfl rfl rfl) ?_
    refine xo_store (q := 0) (vs := [_, _, _]) (cs' := [_, _, _]) (μ' := [_, _]) tk24 rfl rfl rfl rfl rfl rfl rfl rfl rfl ?_
    refine xo_rn rfl (rn_assign rfl) ?_
    refine xo_nil (kseq_normal ?_)
    refine x_ret (kseq_ret ?_)
    refine ⟨rfl, [_, _], .cons (.cell (q := 0) (v := .agg #[_, _, _]) rfl rfl tk24 rfl) (.cons (.tmp rfl) (.nil)), fin_drop (μ' := []) (List.nil_sublist _) (fin_done (ret_tup2 ?_))⟩
    simp only [InstF, hc12, Bool.false_eq_true, if_false]
    rfl
  · have hc12b := hc12
    try rw [Bool.not_eq_true'] at hc12
    try rw [Bool.not_eq_false'] at hc12
    try rw [decide_eq_true_eq] at hc12
    try rw [decide_eq_false_iff_not] at hc12
    try rw [Int.not_lt] at hc12
    try rw [Int.not_le] at hc12
    refine x_skip (kseq_normal ?_)
    refine x_seq ?_
    refine x_seq ?_
    refine x_region ?_
    refine xo_rn rfl (rn_move rfl) ?_
    refine xo_rn rfl (rn_len_slice tsl22 rfl) ?_
    refine xo_rn rfl (rn_move rfl) ?_
    refine xo_nil (kseq_normal ?_)
    refine x_block ?_
    refine x_loop (G := Nat) (fun g => [(16, .int .i64 (g : Int)), (15, .int .i64 (bys.length : Int)), (14, .slice ba bys.length bcap), (4, .pointer (some ⟨b4, 0, none⟩)), (2, .pointer (some ⟨b2, 0, none⟩)), (1, .slice ba bys.length bcap)])
      (fun g => [bx b4 24 [.int .i64 0, .int .i64 0, .slice none 0 0], bx b2 24 [.int .i64 k, .int .i64 nn, .slice a ls.length cap]]) (fun g m' => g ≤ bys.length ∧ m' = m ∧ byRight (bys.drop g) = byRight bys) (fun g => bys.length - g) 0
      ⟨by simp, rfl, rfl⟩ ⟨rfl, rfl, rfl, rfl, rfl, rfl, trivial⟩ (.refl _) ?_
    rintro i m' ⟨hi, rfl, hby⟩ hle
    refine x_seq ?_
    refine x_region ?_
    refine xo_rn rfl (rn_lss rfl rfl) ?_
    refine xo_nil (kseq_normal ?_)
    refine x_seq ?_
    refine x_cond rfl (fun hc17 => ?_) (fun hc17 => ?_)
    · have hc17b := hc17
      try rw [Bool.not_eq_true'] at hc17
      try rw [Bool.not_eq_false'] at hc17
      try rw [decide_eq_true_eq] at hc17
      try rw [decide_eq_false_iff_not] at hc17
      try rw [Int.not_lt] at hc17
      try rw [Int.not_le] at hc17
      refine x_skip (kseq_normal ?_)
      refine x_seq ?_
      refine x_block ?_
      refine x_seq ?_
      refine x_region ?_
      have hi' : i < bys.length := by omega
      obtain ⟨lc, hlc⟩ : ∃ lc, bys[i]? = some lc := ⟨_, List.getElem?_eq_getElem hi'⟩
      obtain ⟨b, off, k1, n1, l1, a1, cap1, rfl, rfl, hrd, hlv⟩ := hbat _ lc hlc
      refine xo_rn rfl (rn_indexAddr (q := i) tsl22 rfl rfl rfl hi') ?_
      refine xo_rl rfl (rl_memN tk24 rfl (hrd) rfl) ?_
      refine xo_alloc rfl tz24 (cs := [_, _, _]) rfl (fun b7 => ?_)
      refine xo_store (q := 0) (vs := [_, _, _]) (cs' := [_, _, _]) (μ' := [_, _, _]) tk24 rfl rfl rfl rfl rfl rfl rfl rfl rfl ?_
      refine xo_nil (kseq_normal ?_)
      refine x_seq ?_
      refine x_region ?_
      refine xo_rl rfl (rl_own (q := 0) (v := .agg #[_, _, _]) tk24 rfl rfl rfl) ?_
      refine xo_callS rfl cl13 (vs := [_, _]) rfl (Right_spec _ _ _ _ hlv) ?_
      refine xo_rn rfl (rn_not rfl) ?_
      refine xo_nil (kseq_normal ?_)
      refine x_cond rfl (fun hc22 => ?_) (fun hc22 => ?_)
      · have hc22b := hc22
        try rw [Bool.not_eq_true'] at hc22
        try rw [Bool.not_eq_false'] at hc22
        try rw [decide_eq_true_eq] at hc22
        try rw [decide_eq_false_iff_not] at hc22
        try rw [Int.not_lt] at hc22
        try rw [Int.not_le] at hc22
        refine x_seq ?_
        refine x_region ?_
        refine xo_rn rfl (rn_build (pv := []) (zs := [_, _, _]) (cs := [_, _, _]) tpl24 tz24 rfl rfl rfl) ?_
        refine xo_store (q := 1) (vs := [_, _, _]) (cs' := [_, _, _]) (μ' := [_, _, _]) tk24 rfl rfl rfl rfl rfl rfl rfl rfl rfl ?_
        refine xo_rn rfl (rn_assign rfl) ?_
        refine xo_nil (kseq_normal ?_)
        refine x_ret (kblock_ret (kseq_ret (kloop_ret (kblock_ret (kseq_ret ?_)))))
        refine ⟨rfl, [_, _], .cons (.cell (q := 1) (v := .agg #[_, _, _]) rfl rfl tk24 rfl) (.cons (.tmp rfl) (.nil)), fin_drop (μ' := []) (List.nil_sublist _) (fin_done (ret_tup2 ?_))⟩
        rw [byRight_drop hlc, hc22] at hby
        simp only [InstF, hc12, if_true, ← hby, Bool.false_and, Bool.false_eq_true, if_false]
        rfl
      · have hc22b := hc22
        try rw [Bool.not_eq_true'] at hc22
        try rw [Bool.not_eq_false'] at hc22
        try rw [decide_eq_true_eq] at hc22
        try rw [decide_eq_false_iff_not] at hc22
        try rw [Int.not_lt] at hc22
        try rw [Int.not_le] at hc22
        refine x_skip (kblock_normal (kseq_normal ?_))
        refine x_region ?_
        refine xo_rn rfl (by first | exact rn_addN rfl rfl (by unfold i64; omega) | exact rn_add rfl rfl) ?_
        refine xo_rn rfl (rn_move rfl) ?_
        refine xo_nil (kloop_normal ?_)
        refine ⟨i + 1, by omega, ⟨by omega, rfl, ?_⟩, ⟨rfl, rfl, rfl, rfl, rfl, rfl, trivial⟩, .cons _ (.cons_cons _ (.cons_cons _ (.refl _))), rfl, hle⟩
        rw [← hby, byRight_drop hlc, hc22, Bool.true_and]
    · have hc17b := hc17
      try rw [Bool.not_eq_true'] at hc17
      try rw [Bool.not_eq_false'] at hc17
      try rw [decide_eq_true_eq] at hc17
      try rw [decide_eq_false_iff_not] at hc17
      try rw [Int.not_lt] at hc17
      try rw [Int.not_le] at hc17
      refine x_exit (kseq_exit (kloop_exit (kblock_exit_here (kseq_normal ?_))))
      refine x_seq ?_
      refine x_seq ?_
      refine x_region ?_
      refine xo_rl rfl (rl_own (q := 1) (v := .agg #[_, _, _]) tk24 rfl rfl rfl) ?_
      refine xo_rn rfl (rn_move rfl) ?_
      obtain rfl : i = bys.length := by omega
      rw [List.drop_length] at hby
      refine xo_callS rfl cl38 (vs := [_, _]) rfl (grown_spec _ _ _ _ _ hl0 hb0 (right_all hc12) (right_size hc12)) ?_
      refine xo_rn rfl (rn_gtr rfl rfl) ?_
      refine xo_nil (kseq_normal ?_)
      refine x_cond rfl (fun hc28 => ?_) (fun hc28 => ?_)
      · have hc28b := hc28
        try rw [Bool.not_eq_true'] at hc28
        try rw [Bool.not_eq_false'] at hc28
        try rw [decide_eq_true_eq] at hc28
        try rw [decide_eq_false_iff_not] at hc28
        try rw [Int.not_lt] at hc28
        try rw [Int.not_le] at hc28
        refine x_seq ?_
        refine x_region ?_
        refine xo_rn rfl (rn_build (pv := []) (zs := [_, _, _]) (cs := [_, _, _]) tpl24 tz24 rfl rfl rfl) ?_
        refine xo_store (q := 0) (vs := [_, _, _]) (cs' := [_, _, _]) (μ' := [_, _]) tk24 rfl rfl rfl rfl rfl rfl rfl rfl rfl ?_
        refine xo_rn rfl (rn_assign rfl) ?_
        refine xo_nil (kseq_normal ?_)
        refine x_ret (kseq_ret ?_)
        refine ⟨rfl, [_, _], .cons (.cell (q := 0) (v := .agg #[_, _, _]) rfl rfl tk24 rfl) (.cons (.tmp rfl) (.nil)), fin_drop (μ' := []) (List.nil_sublist _) (fin_done (ret_tup2 ?_))⟩
        simp only [InstF, hc12, if_true, ← hby, byRight, if_neg (show ¬ grownF (.mk k nn ls) bys ≤ 64 by omega)]
        rfl
      · have hc28b := hc28
        try rw [Bool.not_eq_true'] at hc28
        try rw [Bool.not_eq_false'] at hc28
        try rw [decide_eq_true_eq] at hc28
        try rw [decide_eq_false_iff_not] at hc28
        try rw [Int.not_lt] at hc28
        try rw [Int.not_le] at hc28
        refine x_skip (kseq_normal ?_)
        refine x_seq ?_
        refine x_region ?_
        refine xo_rl rfl (rl_own (q := 1) (v := .agg #[_, _, _]) tk24 rfl rfl rfl) ?_
        refine xo_rn rfl (rn_move rfl) ?_
        refine xo_call0 rfl cl39 (vs := [_, _]) rfl (inst_spec _ _ _ _ _ hl0 hb0 (right_all hc12)) (fun v32 m32 _ hle32 hq32 => ?_)
        obtain ⟨c2, rfl, hc2⟩ := hq32
        have hc2' := hc2
        obtain ⟨k3, n3, l3, a3, cap3, heq, rfl, -, -, -, -⟩ := hc2'.open
        refine xo_store (q := 0) (vs := [_, _, _]) (cs' := [_, _, _]) (μ' := [_, _]) tk24 rfl rfl rfl rfl rfl rfl rfl rfl rfl ?_
        refine xo_rn rfl (rn_assign rfl) ?_
        refine xo_nil (kseq_normal ?_)
        refine x_ret ?_
        refine ⟨rfl, [_, _], .cons (.cell (q := 0) (v := .agg #[_, _, _]) rfl rfl tk24 rfl) (.cons (.tmp rfl) (.nil)), fin_drop (μ' := []) (List.nil_sublist _) (fin_done (ret_tup2 ?_))⟩
        simp only [InstF, hc12, if_true, ← hby, byRight, if_pos (show grownF (.mk k nn ls) bys ≤ 64 by omega)]
        exact ⟨_, rfl, hc2⟩

end Go.Proofs.Ytagilgmgacpffaa

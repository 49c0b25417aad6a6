/-
  Contracts of what makes levels.
-/
import Derived.Test.YtagilgmgacpffaaLvf
namespace Go.Proofs.Ytagilgmgacpffaa
open Go Go.Gw

def LvOut (l : Lv) (v : Value) (m' : Mem) (_ : Own) : Prop := ∃ cs, v = .agg cs.toArray ∧ LvV m' l cs

theorem made_of (ls : List Lv) (ih : ∀ l ∈ ls, ∀ (m : Mem) (cs : List Value), LvV m l cs → Cspec Try.prog 42 #[.agg cs.toArray] m [] (Ret (LvOut l)))
    (k : Int) (m : Mem) (sv : Value) (hk : i64 k) (hs : LvsS m ls sv) : Cspec Try.prog 43 #[.int .i64 k, sv] m [] (Ret (LvOut (.mk k 0 ls))) := by
  obtain ⟨a, cap, rfl, hcap, hlen, hat⟩ := hs.open
  refine spec_body (vs := [_, _]) Try.func43 rfl Try.ntmps43 rfl (fun E => ?_)
  refine x_seq ?_
  refine x_region ?_
  refine xo_alloc rfl tz24 (cs := [_, _, _]) rfl (fun b4 => ?_)
  refine xo_nil (kseq_normal ?_)
  refine x_seq ?_
  refine x_region ?_
  refine xo_rn rfl (rn_move rfl) ?_
  refine xo_rn rfl (rn_build (pv := [(_, _)]) (zs := [_, _, _]) (cs := [_, _, _]) tpl24 tz24 rfl rfl rfl) ?_
  refine xo_alloc rfl tz24 (cs := [_, _, _]) rfl (fun b5 => ?_)
  refine xo_store (q := 0) (vs := [_, _, _]) (cs' := [_, _, _]) (μ' := [_, _]) tk24 rfl rfl rfl rfl rfl rfl rfl rfl rfl ?_
  refine xo_nil (kseq_normal ?_)
  refine x_seq ?_
  refine x_seq ?_
  refine x_region ?_
  refine xo_rn rfl (rn_move rfl) ?_
  refine xo_rn rfl (rn_len_slice tsl22 rfl) ?_
  refine xo_rn rfl (rn_move rfl) ?_
  refine xo_nil (kseq_normal ?_)
  refine x_block ?_
  refine x_nilRow 24 3 ?_
  refine x_loop (G := (Option Addr × Nat) × List (List Value)) (fun g => [(12, .int .i64 (g.2.length : Int)), (11, .int .i64 (ls.length : Int)), (10, .slice a ls.length cap), (5, .pointer (some ⟨b5, 0, none⟩)), (4, .pointer (some ⟨b4, 0, none⟩))])
    (fun g => [.row (.slice g.1.1 g.2.length g.1.2) 24 3 g.2.length g.2.flatten, bx b5 24 [.int .i64 k, .int .i64 0, .slice g.1.1 g.2.length g.1.2], bx b4 24 [.int .i64 0, .int .i64 0, .slice none 0 0]])
    (fun g m' => g.2.length ≤ ls.length ∧ g.2.length ≤ g.1.2 ∧ LvAll m' (ls.take g.2.length) g.2) (fun g => ls.length - g.2.length) ((none, 0), [])
    ⟨by simp, by simp, by simp [LvAll]⟩ ⟨rfl, rfl, rfl, rfl, rfl, trivial⟩ (.refl _) ?_
  rintro ⟨⟨a0, c0⟩, css⟩ m' ⟨hi, hic, hall⟩ hle
  dsimp only at hi hic hall ⊢
  refine x_seq ?_
  refine x_region ?_
  refine xo_rn rfl (rn_lss rfl rfl) ?_
  refine xo_nil (kseq_normal ?_)
  refine x_seq ?_
  refine x_cond rfl (fun hc13 => ?_) (fun hc13 => ?_)
  · have hc13b := hc13
    try rw [Bool.not_eq_true'] at hc13
    try rw [Bool.not_eq_false'] at hc13
    try rw [decide_eq_true_eq] at hc13
    try rw [decide_eq_false_iff_not] at hc13
    try rw [Int.not_lt] at hc13
    try rw [Int.not_le] at hc13
    refine x_skip (kseq_normal ?_)
    refine x_seq ?_
    refine x_block ?_
    refine x_seq ?_
    refine x_region ?_
    have hi' : css.length < ls.length := by omega
    obtain ⟨lc, hlc⟩ : ∃ lc, ls[css.length]? = some lc := ⟨_, List.getElem?_eq_getElem hi'⟩
    obtain ⟨b, off, k1, n1, l1, a1, cap1, rfl, rfl, hrd, hlv⟩ := hat _ lc hlc
    refine xo_rn rfl (rn_indexAddr (q := css.length) tsl22 rfl rfl rfl hi') ?_
    refine xo_rl rfl (rl_memN tk24 rfl (hrd.mono hle) rfl) ?_
    refine xo_alloc rfl tz24 (cs := [_, _, _]) rfl (fun b7 => ?_)
    refine xo_store (q := 0) (vs := [_, _, _]) (cs' := [_, _, _]) (μ' := [_, _, _, _]) tk24 rfl rfl rfl rfl rfl rfl rfl rfl rfl ?_
    refine xo_nil (kseq_normal ?_)
    refine x_env (ρ' := [(4, _), (5, _), (7, _), (10, _), (11, _), (12, _), (13, _), (14, _), (15, _)]) ⟨rfl, rfl, rfl, rfl, rfl, rfl, rfl, rfl, rfl, trivial⟩ ?_
    refine x_region_draw (by kernel_rfl) ?_
    refine xa_p (by kernel_rfl) 0 16 [5] rfl rfl rfl rfl rfl rfl rfl (pv_none (rn_fieldAddr tf24_2 rfl)) ?_
    refine xa_l (by kernel_rfl) 1 17 [16] rfl rfl rfl rfl rfl rfl rfl (pvl_none (rl_own (q := 2) tk22 rfl rfl rfl)) ?_
    refine xa_l (by kernel_rfl) 2 18 [7] rfl rfl rfl rfl rfl rfl rfl (pvl_none (rl_own (q := 0) (v := .agg #[_, _, _]) tk24 rfl rfl rfl)) ?_
    refine xa_effect (by kernel_rfl) 3 rfl rfl (by kernel_rfl) [2] (by kernel_rfl) rfl (pp' := [_]) (pl' := [_]) (hid := [16, 17]) rfl rfl rfl ?_
    refine xo_call0 rfl cl42 (vs := [_]) rfl (ih _ (List.mem_of_getElem? hlc) _ _ (hlv.mono hle)) (fun v19 m19 _ hle19 hq19 => ?_)
    obtain ⟨c2, rfl, hc2⟩ := hq19
    have hc2' := hc2
    obtain ⟨k2, n2, l2, a2, cap2, heq, rfl, -, -, -, -⟩ := hc2'.open
    refine xo_nil ⟨⟨_, rfl⟩, List.forall_mem_cons.2 ⟨pvl_none (rl_own (q := 2) tk22 rfl rfl rfl), fun _ hp => (by cases hp)⟩, ?_⟩
    refine xa_env (ρ' := [(16, _), (17, _), (19, _), (18, _), (4, _), (5, _), (7, _), (10, _), (11, _), (12, _), (13, _), (14, _), (15, _)]) rfl ?_
    refine xa_effect (by kernel_rfl) 4 rfl rfl (by kernel_rfl) [] (by kernel_rfl) rfl (pp' := [_]) (pl' := [_]) (hid := [16, 17]) rfl rfl rfl ?_
    refine xo_buildSlice (pv := [(_, _)]) (zs := [_, _, _]) (cs := [_, _, _]) rfl tsl22 tz24 rfl rfl rfl rfl (fun b20 => ?_)
    refine xo_nil ⟨⟨_, rfl⟩, List.forall_mem_cons.2 ⟨pvl_none (rl_own (q := 3) tk22 rfl rfl rfl), fun _ hp => (by cases hp)⟩, ?_⟩
    refine xa_env (ρ' := [(16, _), (17, _), (20, _), (19, _), (18, _), (4, _), (5, _), (7, _), (10, _), (11, _), (12, _), (13, _), (14, _), (15, _)]) rfl ?_
    refine xa_effect (by kernel_rfl) 5 rfl rfl (by kernel_rfl) [1, 4, 3, 0, 2] (by kernel_rfl) rfl (pp' := []) (pl' := []) (hid := []) rfl rfl rfl ?_
    refine xo_append_box (q := 2) (r := 0) (μ' := fun a1 c1 => [_, _, .row (.slice a1 _ c1) _ _ _ _, _, _]) rfl Try.underlying22 inf24 rfl (by decide) rfl rfl rfl rfl rfl (by simp [Value.oneCell']) (by unfold maxLen; omega) (by omega) (fun _ _ => rfl) (fun a21 c21 hcap21 => ?_)
    refine xo_nil ⟨⟨_, rfl⟩, fun _ hp => (by cases hp), ?_⟩
    refine xa_env (ρ' := [(21, _), (16, _), (17, _), (20, _), (19, _), (18, _), (4, _), (5, _), (7, _), (10, _), (11, _), (12, _), (13, _), (14, _), (15, _)]) rfl ?_
    refine xa_p (by kernel_rfl) 6 22 [5] rfl rfl rfl rfl rfl rfl rfl (pv_none (rn_fieldAddr tf24_2 rfl)) ?_
    refine xa_effect (by kernel_rfl) 7 rfl rfl (by kernel_rfl) [6, 5, 0, 1, 2, 3, 4] (by kernel_rfl) rfl (pp' := []) (pl' := []) (hid := []) rfl rfl rfl ?_
    refine xo_store (q := 3) (vs := [_]) (cs' := [_, _, _]) (μ' := [_, _, _, _, _]) tk22 rfl rfl rfl rfl rfl rfl rfl rfl rfl ?_
    refine xo_nil ⟨⟨undef, rfl⟩, fun _ hp => (by cases hp), ?_⟩
    refine xa_env (ρ' := [(22, _), (21, _), (16, _), (17, _), (20, _), (19, _), (18, _), (4, _), (5, _), (7, _), (10, _), (11, _), (12, _), (13, _), (14, _), (15, _)]) rfl ?_
    refine xa_end (by kernel_rfl) rfl (kblock_normal (kseq_normal ?_))
    refine x_region ?_
    refine xo_rn rfl (by first | exact rn_addN rfl rfl (by unfold i64; omega) | exact rn_add rfl rfl) ?_
    refine xo_rn rfl (rn_move rfl) ?_
    refine xo_nil (kloop_normal ?_)
    refine ⟨((a21, c21), css ++ [[.int .i64 k2, .int .i64 n2, .slice a2 l2.length cap2]]), by simp; omega, ⟨by simp; omega, by simpa using hcap21, ?_⟩, ⟨by simp [eget], rfl, rfl, rfl, rfl, trivial⟩, ?_, rfl, hle.trans hle19⟩
    · rw [List.length_append, List.length_singleton, take_snoc' hlc]
      exact (hall.mono hle19).snoc hc2
    · simp only [List.length_append, List.length_cons, List.length_nil, Nat.zero_add, List.flatten_append, List.flatten_cons, List.flatten_nil, List.append_nil]
      exact .cons _ (.cons _ (.cons_cons _ (.cons_cons _ (.cons_cons _ (.refl _)))))
  · have hc13b := hc13
    try rw [Bool.not_eq_true'] at hc13
    try rw [Bool.not_eq_false'] at hc13
    try rw [decide_eq_true_eq] at hc13
    try rw [decide_eq_false_iff_not] at hc13
    try rw [Int.not_lt] at hc13
    try rw [Int.not_le] at hc13
    refine x_exit (kseq_exit (kloop_exit (kblock_exit_here (kseq_normal ?_))))
    refine x_seq ?_
    refine x_region ?_
    refine xo_rl rfl (rl_own (q := 1) (v := .agg #[_, _, _]) tk24 rfl rfl rfl) ?_
    refine xo_store (q := 2) (vs := [_, _, _]) (cs' := [_, _, _]) (μ' := [_, _, _]) tk24 rfl rfl rfl rfl rfl rfl rfl rfl rfl ?_
    refine xo_nil (kseq_normal ?_)
    refine x_ret ?_
    obtain hl : css.length = ls.length := by omega
    rw [hl, List.take_length] at hall
    refine ⟨rfl, [_], .cons (.cell (q := 2) (v := .agg #[_, _, _]) rfl rfl tk24 rfl) .nil, ?_⟩
    refine fin_row (q := 0) rfl (fun m2 hle2 hrow => ?_)
    refine fin_done (ret_tup1 ⟨_, rfl, ?_⟩)
    simp only [LvV]
    exact ⟨hk, by unfold i64; omega, a0, c0, by rw [hl], ⟨by omega, hlen⟩, (hall.mono hle2).made hrow⟩

theorem copied_spec (l : Lv) : ∀ (m : Mem) (cs : List Value), LvV m l cs → Cspec Try.prog 42 #[.agg cs.toArray] m [] (Ret (LvOut l)) := by
  induction l using Lv.ind with
  | _ k nn ls ih =>
    intro m cs hl
    have hs := hl.slice'
    obtain ⟨_, _, _, a, cap, ⟨rfl, rfl, rfl⟩, rfl, hk, hn, hlen, hat⟩ := hl.open
    refine spec_body (vs := [_]) Try.func42 rfl Try.ntmps42 rfl (fun E => ?_)
    refine x_seq ?_
    refine x_region ?_
    refine xo_box rfl rfl (cs := [_, _, _]) rfl (fun b1 => ?_)
    refine xo_alloc rfl tz24 (cs := [_, _, _]) rfl (fun b2 => ?_)
    refine xo_nil (kseq_normal ?_)
    refine x_seq ?_
    refine x_region ?_
    refine xo_rn rfl (rn_fieldAddr tf24_0 rfl) ?_
    refine xo_rl rfl (rl_own (q := 1) tk3 rfl rfl rfl) ?_
    refine xo_rn rfl (rn_fieldAddr tf24_2 rfl) ?_
    refine xo_rl rfl (rl_own (q := 1) tk22 rfl rfl rfl) ?_
    refine xo_call0 rfl cl43 (vs := [_, _]) rfl (made_of ls ih _ _ _ hk (hs _ _ rfl)) (fun v8 m8 _ hle8 hq8 => ?_)
    obtain ⟨c2, rfl, hc2⟩ := hq8
    have hc2' := hc2
    obtain ⟨k2, n2, l2, a2, cap2, heq, rfl, -, -, -, -⟩ := hc2'.open
    cases heq
    refine xo_alloc rfl tz24 (cs := [_, _, _]) rfl (fun b3 => ?_)
    refine xo_store (q := 0) (vs := [_, _, _]) (cs' := [_, _, _]) (μ' := [_, _, _]) tk24 rfl rfl rfl rfl rfl rfl rfl rfl rfl ?_
    refine xo_nil (kseq_normal ?_)
    refine x_seq ?_
    refine x_region ?_
    refine xo_rn rfl (rn_fieldAddr tf24_1 rfl) ?_
    refine xo_rl rfl (rl_own (q := 2) tk3 rfl rfl rfl) ?_
    refine xo_rn rfl (rn_fieldAddr tf24_1 rfl) ?_
    refine xo_store (q := 0) (vs := [_]) (cs' := [_, _, _]) (μ' := [_, _, _]) tk3 rfl rfl rfl rfl rfl rfl rfl rfl rfl ?_
    refine xo_nil (kseq_normal ?_)
    refine x_seq ?_
    refine x_region ?_
    refine xo_rl rfl (rl_own (q := 0) (v := .agg #[_, _, _]) tk24 rfl rfl rfl) ?_
    refine xo_store (q := 1) (vs := [_, _, _]) (cs' := [_, _, _]) (μ' := [_, _, _]) tk24 rfl rfl rfl rfl rfl rfl rfl rfl rfl ?_
    refine xo_nil (kseq_normal ?_)
    refine x_ret ?_
    refine ⟨rfl, [_], .cons (.cell (q := 1) (v := .agg #[_, _, _]) rfl rfl tk24 rfl) (.nil), fin_drop (μ' := []) (List.nil_sublist _) (fin_done (ret_tup1 ?_))⟩
    exact ⟨_, rfl, hc2.renum hn⟩

theorem made_spec (ls : List Lv) (k : Int) (m : Mem) (sv : Value) (hk : i64 k) (hs : LvsS m ls sv) : Cspec Try.prog 43 #[.int .i64 k, sv] m [] (Ret (LvOut (.mk k 0 ls))) :=
  made_of ls (fun l _ => copied_spec l) k m sv hk hs

theorem Succ_spec (l : Lv) (m : Mem) (cs : List Value) (hl : LvV m l cs) : Cspec Try.prog 28 #[.agg cs.toArray] m [] (Ret (LvOut (.mk 3 0 [l]))) := by
  have hl0 := hl
  obtain ⟨k, nn, ls, a, cap, rfl, rfl, hk, hn, hlen, hat⟩ := hl.open
  refine spec_body (vs := [_]) Try.func28 rfl Try.ntmps28 rfl (fun E => ?_)
  refine x_seq ?_
  refine x_region ?_
  refine xo_box rfl rfl (cs := [_, _, _]) rfl (fun b1 => ?_)
  refine xo_alloc rfl tz24 (cs := [_, _, _]) rfl (fun b2 => ?_)
  refine xo_nil (kseq_normal ?_)
  refine x_seq ?_
  refine x_region ?_
  refine xo_rl rfl (rl_own (q := 1) (v := .agg #[_, _, _]) tk24 rfl rfl rfl) ?_
  refine xo_buildSlice (pv := [(_, _)]) (zs := [_, _, _]) (cs := [_, _, _]) rfl tsl22 tz24 rfl rfl rfl rfl (fun b4 => ?_)
  refine xo_freezeBlk (q := 0) rfl (fun m_b4 hle_b4 hm_b4 => ?_)
  dsimp only [List.eraseIdx]
  refine xo_call0 rfl cl43 (vs := [_, _]) rfl (made_spec [_] 3 _ _ (by unfold i64; omega) (LvsS.of1 hm_b4 (hl0.mono hle_b4))) (fun v5 m5 _ hle5 hq5 => ?_)
  obtain ⟨c2, rfl, hc2⟩ := hq5
  obtain ⟨k2, n2, l2, a2, cap2, heq, rfl, -, -, -, -⟩ := hc2.open
  refine xo_store (q := 0) (vs := [_, _, _]) (cs' := [_, _, _]) (μ' := [_, _]) tk24 rfl rfl rfl rfl rfl rfl rfl rfl rfl ?_
  refine xo_nil (kseq_normal ?_)
  refine x_ret ?_
  refine ⟨rfl, [_], .cons (.cell (q := 0) (v := .agg #[_, _, _]) rfl rfl tk24 rfl) (.nil), fin_drop (μ' := []) (List.nil_sublist _) (fin_done (ret_tup1 ?_))⟩
  exact ⟨_, rfl, hc2⟩

theorem IMax_spec (x y : Lv) (m : Mem) (cs ds : List Value) (hx : LvV m x cs) (hy : LvV m y ds) : Cspec Try.prog 27 #[.agg cs.toArray, .agg ds.toArray] m [] (Ret (LvOut (.mk 5 0 [x, y]))) := by
  have hx0 := hx
  have hy0 := hy
  obtain ⟨k, nn, ls, a, cap, rfl, rfl, hk, hn, hlen, hat⟩ := hx.open
  obtain ⟨k2, nn2, ls2, a2, cap2, rfl, rfl, hk2, hn2, hlen2, hat2⟩ := hy.open
  refine spec_body (vs := [_, _]) Try.func27 rfl Try.ntmps27 rfl (fun E => ?_)
  refine x_seq ?_
  refine x_region ?_
  refine xo_box rfl rfl (cs := [_, _, _]) rfl (fun b2 => ?_)
  refine xo_box rfl rfl (cs := [_, _, _]) rfl (fun b3 => ?_)
  refine xo_alloc rfl tz24 (cs := [_, _, _]) rfl (fun b4 => ?_)
  refine xo_nil (kseq_normal ?_)
  refine x_seq ?_
  refine x_region ?_
  refine xo_rl rfl (rl_own (q := 2) (v := .agg #[_, _, _]) tk24 rfl rfl rfl) ?_
  refine xo_rl rfl (rl_own (q := 1) (v := .agg #[_, _, _]) tk24 rfl rfl rfl) ?_
  refine xo_buildSlice (pv := [(_, _), (_, _)]) (zs := [_, _, _, _, _, _]) (cs := [_, _, _, _, _, _]) rfl tsl22 tz24 rfl rfl rfl rfl (fun b7 => ?_)
  refine xo_freezeBlk (q := 0) rfl (fun m_b7 hle_b7 hm_b7 => ?_)
  dsimp only [List.eraseIdx]
  refine xo_call0 rfl cl43 (vs := [_, _]) rfl (made_spec [_, _] 5 _ _ (by unfold i64; omega) (LvsS.of2 hm_b7 (hx0.mono hle_b7) (hy0.mono hle_b7))) (fun v8 m8 _ hle8 hq8 => ?_)
  obtain ⟨c2, rfl, hc2⟩ := hq8
  obtain ⟨k3, n3, l3, a3, cap3, heq, rfl, -, -, -, -⟩ := hc2.open
  refine xo_store (q := 0) (vs := [_, _, _]) (cs' := [_, _, _]) (μ' := [_, _, _]) tk24 rfl rfl rfl rfl rfl rfl rfl rfl rfl ?_
  refine xo_nil (kseq_normal ?_)
  refine x_ret ?_
  refine ⟨rfl, [_], .cons (.cell (q := 0) (v := .agg #[_, _, _]) rfl rfl tk24 rfl) (.nil), fin_drop (μ' := []) (List.nil_sublist _) (fin_done (ret_tup1 ?_))⟩
  exact ⟨_, rfl, hc2⟩

def maxL : List Lv → Lv
  | [] => .mk 1 0 []
  | [l] => l
  | l :: r => .mk 4 0 [l, maxL r]

theorem Max_spec (ls : List Lv) : ∀ (m : Mem) (sv : Value), LvsS m ls sv → Cspec Try.prog 26 #[sv] m [] (Ret (LvOut (maxL ls))) := by
  induction ls with
  | nil =>
    intro m sv hs
    obtain ⟨a, cap, rfl, hcap, hlen, hat⟩ := hs.open
    refine spec_body (vs := [_]) Try.func26 rfl Try.ntmps26 rfl (fun E => ?_)
    refine x_seq ?_
    refine x_region ?_
    refine xo_alloc rfl tz24 (cs := [_, _, _]) rfl (fun b2 => ?_)
    refine xo_nil (kseq_normal ?_)
    refine x_seq ?_
    refine x_seq ?_
    refine x_region ?_
    refine xo_rn rfl (rn_move rfl) ?_
    refine xo_rn rfl (rn_len_slice tsl22 rfl) ?_
    refine xo_nil (kseq_normal ?_)
    refine x_block ?_
    refine x_seq ?_
    refine x_region ?_
    refine xo_rn rfl (rn_eql rfl rfl) ?_
    refine xo_rn rfl (rn_assign rfl) ?_
    refine xo_nil (kseq_normal ?_)
    refine x_cond rfl (fun hc5 => ?_) (fun hc5 => ?_)
    · have hc5b := hc5
      try rw [Bool.not_eq_true'] at hc5
      try rw [Bool.not_eq_false'] at hc5
      try rw [decide_eq_true_eq] at hc5
      try rw [decide_eq_false_iff_not] at hc5
      try rw [Int.not_lt] at hc5
      try rw [Int.not_le] at hc5
      refine x_seq ?_
      refine x_region ?_
      refine xo_callS rfl cl12 (vs := [_]) rfl (Num_spec _ _) ?_
      refine xo_store (q := 0) (vs := [_, _, _]) (cs' := [_, _, _]) (μ' := [_]) tk24 rfl rfl rfl rfl rfl rfl rfl rfl rfl ?_
      refine xo_nil (kseq_normal ?_)
      refine x_ret (kblock_ret (kseq_ret ?_))
      refine ⟨rfl, [_], .cons (.cell (q := 0) (v := .agg #[_, _, _]) rfl rfl tk24 rfl) (.nil), fin_drop (μ' := []) (List.nil_sublist _) (fin_done (ret_tup1 ?_))⟩
      exact ⟨_, rfl, LvV.leaf 1 0 (by unfold i64; omega) (by unfold i64; omega)⟩
    · have hc5b := hc5
      try rw [Bool.not_eq_true'] at hc5
      try rw [Bool.not_eq_false'] at hc5
      try rw [decide_eq_true_eq] at hc5
      try rw [decide_eq_false_iff_not] at hc5
      try rw [Int.not_lt] at hc5
      try rw [Int.not_le] at hc5
      simp at hc5
  | cons x r ih =>
    intro m sv hs
    have hs0 := hs
    obtain ⟨a, cap, rfl, hcap, hlen, hat⟩ := hs.open
    obtain ⟨b, off, k1, n1, l1, a1, cap1, rfl, rfl, hrd, hlv⟩ := hat 0 x rfl
    have hlt : 0 < (Lv.mk k1 n1 l1 :: r).length := by simp
    refine spec_body (vs := [_]) Try.func26 rfl Try.ntmps26 rfl (fun E => ?_)
    refine x_seq ?_
    refine x_region ?_
    refine xo_alloc rfl tz24 (cs := [_, _, _]) rfl (fun b2 => ?_)
    refine xo_nil (kseq_normal ?_)
    refine x_seq ?_
    refine x_seq ?_
    refine x_region ?_
    refine xo_rn rfl (rn_move rfl) ?_
    refine xo_rn rfl (rn_len_slice tsl22 rfl) ?_
    refine xo_nil (kseq_normal ?_)
    refine x_block ?_
    refine x_seq ?_
    refine x_region ?_
    refine xo_rn rfl (rn_eql rfl rfl) ?_
    refine xo_rn rfl (rn_assign rfl) ?_
    refine xo_nil (kseq_normal ?_)
    refine x_cond rfl (fun hc5 => ?_) (fun hc5 => ?_)
    · have hc5b := hc5
      try rw [Bool.not_eq_true'] at hc5
      try rw [Bool.not_eq_false'] at hc5
      try rw [decide_eq_true_eq] at hc5
      try rw [decide_eq_false_iff_not] at hc5
      try rw [Int.not_lt] at hc5
      try rw [Int.not_le] at hc5
      simp at hc5
      omega
    · have hc5b := hc5
      try rw [Bool.not_eq_true'] at hc5
      try rw [Bool.not_eq_false'] at hc5
      try rw [decide_eq_true_eq] at hc5
      try rw [decide_eq_false_iff_not] at hc5
      try rw [Int.not_lt] at hc5
      try rw [Int.not_le] at hc5
      refine x_seq ?_
      refine x_region ?_
      refine xo_rn rfl (rn_eql rfl rfl) ?_
      refine xo_rn rfl (rn_assign rfl) ?_
      refine xo_nil (kseq_normal ?_)
      refine x_cond rfl (fun hc8 => ?_) (fun hc8 => ?_)
      · have hc8b := hc8
        try rw [Bool.not_eq_true'] at hc8
        try rw [Bool.not_eq_false'] at hc8
        try rw [decide_eq_true_eq] at hc8
        try rw [decide_eq_false_iff_not] at hc8
        try rw [Int.not_lt] at hc8
        try rw [Int.not_le] at hc8
        refine x_seq ?_
        refine x_region ?_
        refine xo_rn rfl (rn_move rfl) ?_
        refine xo_rn rfl (rn_indexAddr (q := 0) tsl22 rfl rfl rfl hlt) ?_
        refine xo_rl rfl (rl_memN tk24 rfl (hrd) rfl) ?_
        refine xo_call0 rfl cl42 (vs := [_]) rfl (copied_spec _ _ _ hlv) (fun v13 m13 _ hle13 hq13 => ?_)
        obtain ⟨c2, rfl, hc2⟩ := hq13
        obtain ⟨k3, n3, l3, a3, cap3, heq, rfl, -, -, -, -⟩ := hc2.open
        refine xo_store (q := 0) (vs := [_, _, _]) (cs' := [_, _, _]) (μ' := [_]) tk24 rfl rfl rfl rfl rfl rfl rfl rfl rfl ?_
        refine xo_nil (kseq_normal ?_)
        refine x_ret (kblock_ret (kseq_ret ?_))
        refine ⟨rfl, [_], .cons (.cell (q := 0) (v := .agg #[_, _, _]) rfl rfl tk24 rfl) (.nil), fin_drop (μ' := []) (List.nil_sublist _) (fin_done (ret_tup1 ?_))⟩
        have hr : r = [] := by
          simp at hc8
          exact List.eq_nil_of_length_eq_zero (by omega)
        subst hr
        exact ⟨_, rfl, hc2⟩
      · have hc8b := hc8
        try rw [Bool.not_eq_true'] at hc8
        try rw [Bool.not_eq_false'] at hc8
        try rw [decide_eq_true_eq] at hc8
        try rw [decide_eq_false_iff_not] at hc8
        try rw [Int.not_lt] at hc8
        try rw [Int.not_le] at hc8
        refine x_skip (kblock_normal (kseq_normal ?_))
        refine x_seq ?_
        refine x_env (ρ' := [(0, _), (2, _)]) ⟨rfl, rfl, trivial⟩ ?_
        refine x_region_draw (by kernel_rfl) ?_
        refine xa_p (by kernel_rfl) 0 14 [0] rfl rfl rfl rfl rfl rfl rfl (pv_none (rn_move rfl)) ?_
        refine xa_p (by kernel_rfl) 1 15 [14] rfl rfl rfl rfl rfl rfl rfl (pv_none (rn_indexAddr (q := 0) tsl22 rfl rfl rfl hlt)) ?_
        refine xa_l (by kernel_rfl) 2 16 [15] rfl rfl rfl rfl rfl rfl rfl (pvl_none (rl_memN tk24 rfl (hrd) rfl)) ?_
        refine xa_p (by kernel_rfl) 3 17 [0] rfl rfl rfl rfl rfl rfl rfl (pv_none (rn_move rfl)) ?_
        refine xa_p (by kernel_rfl) 4 18 [17] rfl rfl rfl rfl rfl rfl rfl (pv_none (rn_slice_lo (q := 1) tsl22 rfl rfl rfl (by omega))) ?_
        refine xa_effect (by kernel_rfl) 5 rfl rfl (by kernel_rfl) [4, 3] (by kernel_rfl) rfl (pp' := [_, _]) (pl' := [_]) (hid := [15, 14, 16]) rfl rfl rfl ?_
        refine xo_call0 rfl cl26 (vs := [_]) rfl (ih _ _ (hs0.tail (by omega))) (fun v19 m19 _ hle19 hq19 => ?_)
        obtain ⟨c2, rfl, hc2⟩ := hq19
        have hc2' := hc2
        obtain ⟨k3, n3, l3, a3, cap3, heq, rfl, -, -, -, -⟩ := hc2'.open
        refine xo_nil ⟨⟨_, rfl⟩, List.forall_mem_cons.2 ⟨pvl_none (rl_memN tk24 rfl ((hrd).mono hle19) rfl), fun _ hp => (by cases hp)⟩, ?_⟩
        refine xa_env (ρ' := [(15, _), (14, _), (16, _), (19, _), (18, _), (17, _), (0, _), (2, _)]) rfl ?_
        refine xa_effect (by kernel_rfl) 6 rfl rfl (by kernel_rfl) [2, 5, 1, 4, 0, 3] (by kernel_rfl) rfl (pp' := []) (pl' := []) (hid := []) rfl rfl rfl ?_
        refine xo_buildSlice (pv := [(_, _), (_, _)]) (zs := [_, _, _, _, _, _]) (cs := [_, _, _, _, _, _]) rfl tsl22 tz24 rfl rfl rfl rfl (fun b20 => ?_)
        refine xo_nil ⟨⟨_, rfl⟩, fun _ hp => (by cases hp), ?_⟩
        refine xa_env (ρ' := [(20, _), (15, _), (14, _), (16, _), (19, _), (18, _), (17, _), (0, _), (2, _)]) rfl ?_
        refine xa_effect (by kernel_rfl) 7 rfl rfl (by kernel_rfl) [] (by kernel_rfl) rfl (pp' := []) (pl' := []) (hid := []) rfl rfl rfl ?_
        refine xo_freezeBlk (q := 0) rfl (fun m_b20 hle_b20 hm_b20 => ?_)
        dsimp only [List.eraseIdx]
        refine xo_call0 rfl cl43 (vs := [_, _]) rfl (made_spec [_, _] 4 _ _ (by unfold i64; omega) (LvsS.of2 hm_b20 ((hlv.mono hle19).mono hle_b20) (hc2.mono hle_b20))) (fun v21 m21 _ hle21 hq21 => ?_)
        obtain ⟨c4, rfl, hc4⟩ := hq21
        obtain ⟨k4, n4, l4, a4, cap4, heq, rfl, -, -, -, -⟩ := hc4.open
        refine xo_nil ⟨⟨_, rfl⟩, fun _ hp => (by cases hp), ?_⟩
        refine xa_env (ρ' := [(21, _), (20, _), (15, _), (14, _), (16, _), (19, _), (18, _), (17, _), (0, _), (2, _)]) rfl ?_
        refine xa_effect (by kernel_rfl) 8 rfl rfl (by kernel_rfl) [] (by kernel_rfl) rfl (pp' := []) (pl' := []) (hid := []) rfl rfl rfl ?_
        refine xo_store (q := 0) (vs := [_, _, _]) (cs' := [_, _, _]) (μ' := [_]) tk24 rfl rfl rfl rfl rfl rfl rfl rfl rfl ?_
        refine xo_nil ⟨⟨undef, rfl⟩, fun _ hp => (by cases hp), ?_⟩
        refine xa_env (ρ' := [(21, _), (20, _), (15, _), (14, _), (16, _), (19, _), (18, _), (17, _), (0, _), (2, _)]) rfl ?_
        refine xa_end (by kernel_rfl) rfl (kseq_normal ?_)
        refine x_ret ?_
        refine ⟨rfl, [_], .cons (.cell (q := 0) (v := .agg #[_, _, _]) rfl rfl tk24 rfl) (.nil), fin_drop (μ' := []) (List.nil_sublist _) (fin_done (ret_tup1 ?_))⟩
        have hr : ∃ y r', r = y :: r' := by
          cases r with
          | nil => simp at hc8
          | cons y r' => exact ⟨y, r', rfl⟩
        obtain ⟨y, r', rfl⟩ := hr
        exact ⟨_, rfl, hc4⟩

end Go.Proofs.Ytagilgmgacpffaa

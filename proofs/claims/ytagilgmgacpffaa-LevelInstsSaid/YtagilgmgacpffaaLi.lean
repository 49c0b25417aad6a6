/-
  The law LevelInsts: its walk.
-/
import Derived.Test.YtagilgmgacpffaaLq
import Derived.Test.YtagilgmgacpffaaLj
import Derived.Test.YtagilgmgacpffaaGwr
namespace Go.Gw
open Go
theorem IntsV.of_row {m : Mem} {a0 : Option Addr} {js : List Int} {cap : Nat} (h : RowAt m a0 (js.map (Value.int .i64))) (hc : js.length ≤ cap) (hl : js.length ≤ 140737488355328) : IntsV m js (.slice a0 js.length cap) := by
  refine ⟨a0, cap, rfl, hc, hl, fun i v hv => ?_⟩
  rcases h with h | ⟨b, rfl, h⟩
  · have : js = [] := by simpa using h
    subst this
    simp at hv
  · refine ⟨b, 0, rfl, ?_⟩
    have := h i (.int .i64 v) (by simp [hv])
    simpa using this
end Go.Gw
namespace Go.Proofs.Ytagilgmgacpffaa
open Go Go.Gw

theorem InstOut.flat {r : Option Lv} {v : Value} {m : Mem} {μ : Own} (h : InstOut r v m μ) :
    ∃ k n ls a cap, v = .tuple #[.agg #[.int .i64 k, .int .i64 n, .slice a (List.length (α := Lv) ls) cap], .bool r.isSome] ∧ LvV m (r.getD (.mk 0 0 [])) [.int .i64 k, .int .i64 n, .slice a ls.length cap] := by
  cases r with
  | none => exact ⟨0, 0, [], none, 0, h, LvV.leaf 0 0 (by unfold i64; omega) (by unfold i64; omega)⟩
  | some l =>
    obtain ⟨cs, rfl, hl⟩ := h
    have hl' := hl
    obtain ⟨k, n, ls, a, cap, _, rfl, -, -, -, -⟩ := hl'.open
    exact ⟨k, n, ls, a, cap, rfl, hl⟩

set_option maxHeartbeats 4000000 in
theorem LevelInsts_spec (x : Lv) (bys : List Lv) (vs : List Int) (m : Mem) (cx : List Value) (bv sv : Value) (hx : LvV m x cx) (hb : LvsS m bys bv) (hs : IntsV m vs sv) :
    Scal Try.prog 4 #[.agg cx.toArray, bv, sv] m (.bool true) := by
  refine scal_of ?_
  have hx0 := hx
  have hb0 := hb
  have hs0 := hs
  obtain ⟨kx, nx, lx, ax, capx, ex, rfl, -, -, -, -⟩ := hx.open
  obtain ⟨ba, bcap, rfl, hbcap, hblen, hbat⟩ := hb.open
  obtain ⟨a, cap, rfl, hcap, hlen, hat⟩ := hs
  clear hat hx hb
  refine spec_body (vs := [_, _, _]) Try.func4 rfl Try.ntmps4 rfl (fun E => ?_)
  refine x_seq ?_
  refine x_region ?_
  refine xo_box rfl rfl (cs := [_, _, _]) rfl (fun b3 => ?_)
  refine xo_rn rfl (rn_assign rfl) ?_
  refine xo_nil (kseq_normal ?_)
  refine x_seq ?_
  refine x_seq ?_
  refine x_region ?_
  refine xo_callS rfl cl8 (vs := []) rfl (alive_spec _) ?_
  refine xo_rn rfl (rn_not rfl) ?_
  refine xo_nil (kseq_normal ?_)
  refine x_cond_false rfl ?_
  refine x_skip (kseq_normal ?_)
  refine x_seq ?_
  refine x_seq ?_
  refine x_cut (G := Bool) (fun g => [(1, .slice ba bys.length bcap), (2, .slice a vs.length cap), (3, .pointer (some ⟨b3, 0, none⟩)), (26, .bool g)])
    (fun _ => [bx b3 24 [.int .i64 kx, .int .i64 nx, .slice ax lx.length capx]]) (fun g m' => m = m' ∧ (g = false → bys.length ≤ 8)) ?_ ?_
  · refine x_region ?_
    refine xo_rl rfl (rl_own (q := 0) (v := .agg #[_, _, _]) tk24 rfl rfl rfl) ?_
    refine xo_callS rfl cl9 (vs := [_]) rfl (great_spec _ _ _ hx0) ?_
    refine xo_rn rfl (rn_move rfl) ?_
    refine xo_guard rfl rfl (fun hg17 => ?_) (fun hg17 => ?_) rfl
    · have hg17_p := hg17
      try rw [Bool.not_eq_true'] at hg17_p
      try rw [Bool.not_eq_false'] at hg17_p
      try rw [decide_eq_true_eq] at hg17_p
      try rw [decide_eq_false_iff_not] at hg17_p
      try rw [Int.not_lt] at hg17_p
      try rw [Int.not_le] at hg17_p
      refine xo_rn rfl (rn_move rfl) ?_
      refine xo_guard_yes rfl rfl hg17 ?_ rfl
      refine xo_rn rfl (rn_len_slice tsl22 rfl) ?_
      refine xo_guard_yes rfl rfl hg17 ?_ rfl
      refine xo_rn rfl (rn_gtr rfl rfl) ?_
      refine xo_rn rfl (rn_pick_f rfl hg17 rfl) ?_
      refine xo_rn rfl (rn_move rfl) ?_
      refine xo_guard rfl rfl (fun hg22 => ?_) (fun hg22 => ?_) rfl
      · have hg22_p := hg22
        try rw [Bool.not_eq_true'] at hg22_p
        try rw [Bool.not_eq_false'] at hg22_p
        try rw [decide_eq_true_eq] at hg22_p
        try rw [decide_eq_false_iff_not] at hg22_p
        try rw [Int.not_lt] at hg22_p
        try rw [Int.not_le] at hg22_p
        refine xo_rn rfl (rn_move rfl) ?_
        refine xo_guard_yes rfl rfl hg22 ?_ rfl
        refine xo_rn rfl (rn_len_slice tsl25 rfl) ?_
        refine xo_guard_yes rfl rfl hg22 ?_ rfl
        refine xo_rn rfl (rn_gtr rfl rfl) ?_
        refine xo_rn rfl (rn_pick_f rfl hg22 rfl) ?_
        refine xo_nil (kcut_normal ?_)
        refine ⟨_, ⟨rfl, fun hgg => ?_⟩, ⟨rfl, rfl, rfl, rfl, trivial⟩, .cons_cons _ (.refl _), rfl, Mem.le.refl _⟩
        first
          | (cases hgg; done)
          | (simp_all; done)
          | (simp_all; omega)
      · replace hg22 := ne_f hg22
        have hg22_p := hg22
        try rw [Bool.not_eq_true'] at hg22_p
        try rw [Bool.not_eq_false'] at hg22_p
        try rw [decide_eq_true_eq] at hg22_p
        try rw [decide_eq_false_iff_not] at hg22_p
        try rw [Int.not_lt] at hg22_p
        try rw [Int.not_le] at hg22_p
        dsimp only [putU]
        refine xo_guard_no rfl rfl (by rw [hg22]; decide) rfl ?_
        refine xo_guard_no rfl rfl (by rw [hg22]; decide) rfl ?_
        refine xo_rn rfl (rn_pick_t rfl hg22 rfl) ?_
        refine xo_nil (kcut_normal ?_)
        refine ⟨_, ⟨rfl, fun hgg => ?_⟩, ⟨rfl, rfl, rfl, rfl, trivial⟩, .cons_cons _ (.refl _), rfl, Mem.le.refl _⟩
        first
          | (cases hgg; done)
          | (simp_all; done)
          | (simp_all; omega)
    · replace hg17 := ne_f hg17
      have hg17_p := hg17
      try rw [Bool.not_eq_true'] at hg17_p
      try rw [Bool.not_eq_false'] at hg17_p
      try rw [decide_eq_true_eq] at hg17_p
      try rw [decide_eq_false_iff_not] at hg17_p
      try rw [Int.not_lt] at hg17_p
      try rw [Int.not_le] at hg17_p
      dsimp only [putU]
      refine xo_guard_no rfl rfl (by rw [hg17]; decide) rfl ?_
      refine xo_guard_no rfl rfl (by rw [hg17]; decide) rfl ?_
      refine xo_rn rfl (rn_pick_t rfl hg17 rfl) ?_
      refine xo_rn rfl (rn_move rfl) ?_
      refine xo_guard_no rfl rfl (by decide) rfl ?_
      refine xo_guard_no rfl rfl (by decide) rfl ?_
      refine xo_guard_no rfl rfl (by decide) rfl ?_
      refine xo_rn rfl (rn_pick_t rfl rfl rfl) ?_
      refine xo_nil (kcut_normal ?_)
      refine ⟨_, ⟨rfl, fun hgg => ?_⟩, ⟨rfl, rfl, rfl, rfl, trivial⟩, .cons_cons _ (.refl _), rfl, Mem.le.refl _⟩
      first
        | (cases hgg; done)
        | (simp_all; done)
        | (simp_all; omega)
  · rintro _ _ ⟨rfl, h8⟩ hle
    refine kseq_normal ?_
    refine x_cond rfl (fun hc26 => ?_) (fun hc26 => ?_)
    · have hc26b := hc26
      try rw [Bool.not_eq_true'] at hc26
      try rw [Bool.not_eq_false'] at hc26
      try rw [decide_eq_true_eq] at hc26
      try rw [decide_eq_false_iff_not] at hc26
      try rw [Int.not_lt] at hc26
      try rw [Int.not_le] at hc26
      refine x_seq ?_
      refine x_region ?_
      refine xo_rn rfl (rn_assign rfl) ?_
      refine xo_nil (kseq_normal ?_)
      refine x_ret (kseq_ret ?_)
      refine ⟨rfl, [_], .cons (.tmp rfl) (.nil), fin_drop (μ' := []) (List.nil_sublist _) (fin_done (ret_tup1 ?_))⟩
      rfl
    · have hc26b := hc26
      try rw [Bool.not_eq_true'] at hc26
      try rw [Bool.not_eq_false'] at hc26
      try rw [decide_eq_true_eq] at hc26
      try rw [decide_eq_false_iff_not] at hc26
      try rw [Int.not_lt] at hc26
      try rw [Int.not_le] at hc26
      refine x_skip (kseq_normal ?_)
      refine x_seq ?_
      refine x_region ?_
      refine xo_buildSlice (pv := []) (zs := []) (cs := []) rfl tsl25 tz3 rfl rfl rfl rfl (fun b27 => ?_)
      refine xo_rn rfl (rn_assign rfl) ?_
      refine xo_nil (kseq_normal ?_)
      refine x_seq ?_
      refine x_seq ?_
      refine x_region ?_
      refine xo_rn rfl (rn_assign rfl) ?_
      refine xo_nil (kseq_normal ?_)
      refine x_block ?_
      have h8' := h8 hc26
      refine x_rowOf (q := 0) (len := 0) (sz := 1) rfl rfl rfl ?_
      refine x_loop (G := (Option Addr × Nat) × List Int) (fun g => [(1, .slice ba bys.length bcap), (2, .slice a vs.length cap), (3, .pointer (some ⟨b3, 0, none⟩)), (7, .slice g.1.1 g.2.length g.1.2), (8, .int .i64 (g.2.length : Int))])
        (fun g => [.row (.slice g.1.1 g.2.length g.1.2) 3 1 g.2.length (g.2.map (Value.int .i64)), bx b3 24 [.int .i64 kx, .int .i64 nx, .slice ax lx.length capx]])
        (fun g m' => g.2.length ≤ bys.length ∧ g.2.length ≤ g.1.2 ∧ g.2 = (bys.take g.2.length).map (fun b => valueF b vs) ∧ (∀ b ∈ bys.take g.2.length, valueF b vs ≤ 1048576) ∧ m = m') (fun g => bys.length - g.2.length) ((some ⟨b27, 0, none⟩, 0), [])
        ⟨by simp, by simp, by simp, by simp, rfl⟩ ⟨rfl, rfl, rfl, rfl, rfl, trivial⟩ (.refl _) ?_
      rintro ⟨⟨a0, c0⟩, js⟩ m' ⟨hi, hic, hjs, hle1, rfl⟩ hle
      dsimp only at hi hic hjs hle1 ⊢
      refine x_seq ?_
      refine x_seq ?_
      refine x_region ?_
      refine xo_rn rfl (rn_move rfl) ?_
      refine xo_rn rfl (rn_move rfl) ?_
      refine xo_rn rfl (rn_len_slice tsl22 rfl) ?_
      refine xo_rn rfl (rn_lss rfl rfl) ?_
      refine xo_nil (kseq_normal ?_)
      refine x_cond rfl (fun hc31 => ?_) (fun hc31 => ?_)
      · have hc31b := hc31
        try rw [Bool.not_eq_true'] at hc31
        try rw [Bool.not_eq_false'] at hc31
        try rw [decide_eq_true_eq] at hc31
        try rw [decide_eq_false_iff_not] at hc31
        try rw [Int.not_lt] at hc31
        try rw [Int.not_le] at hc31
        refine x_skip (kseq_normal ?_)
        refine x_seq ?_
        refine x_block ?_
        refine x_seq ?_
        refine x_seq ?_
        refine x_region ?_
        refine xo_rn rfl (rn_move rfl) ?_
        refine xo_rn rfl (rn_move rfl) ?_
        have hi' : js.length < bys.length := by omega
        obtain ⟨lc, hlc⟩ : ∃ lc, bys[js.length]? = some lc := ⟨_, List.getElem?_eq_getElem hi'⟩
        obtain ⟨b, off, k1, n1, l1, a1, cap1, rfl, elc, hrd, hlv⟩ := hbat _ lc hlc
        refine xo_rn rfl (rn_indexAddr (q := js.length) tsl22 rfl rfl rfl hi') ?_
        refine xo_rl rfl (rl_memN tk24 rfl (hrd) rfl) ?_
        refine xo_callS rfl cl9 (vs := [_]) rfl (great_spec _ _ _ hlv) ?_
        refine xo_nil (kseq_normal ?_)
        refine x_cond rfl (fun hc38 => ?_) (fun hc38 => ?_)
        · have hc38b := hc38
          try rw [Bool.not_eq_true'] at hc38
          try rw [Bool.not_eq_false'] at hc38
          try rw [decide_eq_true_eq] at hc38
          try rw [decide_eq_false_iff_not] at hc38
          try rw [Int.not_lt] at hc38
          try rw [Int.not_le] at hc38
          refine x_seq ?_
          refine x_region ?_
          refine xo_rn rfl (rn_assign rfl) ?_
          refine xo_nil (kseq_normal ?_)
          refine x_ret (kseq_ret (kblock_ret (kseq_ret (kloop_ret (kblock_ret (kseq_ret ?_))))))
          refine ⟨rfl, [_], .cons (.tmp rfl) (.nil), fin_drop (μ' := []) (List.nil_sublist _) (fin_done (ret_tup1 ?_))⟩
          rfl
        · have hc38b := hc38
          try rw [Bool.not_eq_true'] at hc38
          try rw [Bool.not_eq_false'] at hc38
          try rw [decide_eq_true_eq] at hc38
          try rw [decide_eq_false_iff_not] at hc38
          try rw [Int.not_lt] at hc38
          try rw [Int.not_le] at hc38
          refine x_skip (kseq_normal ?_)
          refine x_seq ?_
          refine x_region ?_
          refine xo_rn rfl (rn_move rfl) ?_
          refine xo_rn rfl (rn_move rfl) ?_
          refine xo_rn rfl (rn_move rfl) ?_
          refine xo_rn rfl (rn_indexAddr (q := js.length) tsl22 rfl rfl rfl hi') ?_
          refine xo_rl rfl (rl_memN tk24 rfl (hrd) rfl) ?_
          refine xo_rn rfl (rn_move rfl) ?_
          refine xo_callS rfl cl15 (vs := [_, _]) rfl (Value_spec _ _ _ _ _ hlv hs0) ?_
          refine xo_buildSlice (pv := [(_, _)]) (zs := [_]) (cs := [_]) rfl tsl25 tz3 rfl rfl rfl rfl (fun b46 => ?_)
          refine xo_append_box (q := 1) (r := 0) (μ' := fun a1 c1 => [_, .row (.slice a1 _ c1) _ _ _ _, _]) rfl Try.underlying25 inf3 rfl (by decide) rfl rfl rfl rfl rfl (by simp [Value.oneCell']) (by unfold maxLen; omega) (by omega) (fun _ _ => rfl) (fun a47 c47 hcap47 => ?_)
          refine xo_rn rfl (rn_assign rfl) ?_
          refine xo_nil (kseq_normal ?_)
          refine x_seq ?_
          refine x_region ?_
          refine xo_rn rfl (rn_move rfl) ?_
          refine xo_rn rfl (rn_move rfl) ?_
          refine xo_rowOpen (q := 1) rfl (by omega) (fun b50 hb50 => ?_)
          subst hb50
          refine xo_rn rfl (rn_indexAddr (q := js.length) tsl25 rfl rfl rfl (by omega)) ?_
          refine xo_rl rfl (rl_row (q := 1) tk3 rfl rfl ((by simp [loadV] : _ = some (.int .i64 (valueF lc vs))))) ?_
          refine xo_rn rfl (rn_gtr rfl rfl) ?_
          refine xo_nil (kseq_normal ?_)
          refine x_cond rfl (fun hc52 => ?_) (fun hc52 => ?_)
          · have hc52b := hc52
            try rw [Bool.not_eq_true'] at hc52
            try rw [Bool.not_eq_false'] at hc52
            try rw [decide_eq_true_eq] at hc52
            try rw [decide_eq_false_iff_not] at hc52
            try rw [Int.not_lt] at hc52
            try rw [Int.not_le] at hc52
            refine x_seq ?_
            refine x_region ?_
            refine xo_rn rfl (rn_assign rfl) ?_
            refine xo_nil (kseq_normal ?_)
            refine x_ret (kblock_ret (kseq_ret (kloop_ret (kblock_ret (kseq_ret ?_)))))
            refine ⟨rfl, [_], .cons (.tmp rfl) (.nil), fin_drop (μ' := []) (List.nil_sublist _) (fin_done (ret_tup1 ?_))⟩
            rfl
          · have hc52b := hc52
            try rw [Bool.not_eq_true'] at hc52
            try rw [Bool.not_eq_false'] at hc52
            try rw [decide_eq_true_eq] at hc52
            try rw [decide_eq_false_iff_not] at hc52
            try rw [Int.not_lt] at hc52
            try rw [Int.not_le] at hc52
            refine x_skip (kblock_normal (kseq_normal ?_))
            refine x_region ?_
            refine xo_rn rfl (rn_move rfl) ?_
            refine xo_rn rfl (by first | exact rn_addN rfl rfl (by unfold i64; omega) | exact rn_add rfl rfl) ?_
            refine xo_rn rfl (rn_assign rfl) ?_
            refine xo_nil (kloop_normal ?_)
            refine ⟨((some ⟨b50, 0, none⟩, c47), js ++ [valueF lc vs]), by simp; omega, ⟨by simp; omega, by simpa using hcap47, ?_, ?_, rfl⟩, ⟨rfl, rfl, rfl, by simp [eget], by simp [eget], trivial⟩, ?_, rfl, Mem.le.refl _⟩
            · rw [List.length_append, List.length_singleton, take_snoc' hlc, List.map_append, ← hjs]
              rfl
            · rw [List.length_append, List.length_singleton, take_snoc' hlc]
              intro b' hb'
              rcases List.mem_append.1 hb' with h | h
              · exact hle1 _ h
              · simp only [List.mem_singleton] at h
                subst h
                omega
            · simp only [List.length_append, List.length_cons, List.length_nil, Nat.zero_add, List.map_append, List.map_cons, List.map_nil]
              exact .cons _ (.cons_cons _ (.cons_cons _ (.refl _)))
      · have hc31b := hc31
        try rw [Bool.not_eq_true'] at hc31
        try rw [Bool.not_eq_false'] at hc31
        try rw [decide_eq_true_eq] at hc31
        try rw [decide_eq_false_iff_not] at hc31
        try rw [Int.not_lt] at hc31
        try rw [Int.not_le] at hc31
        refine x_exit (kseq_exit (kloop_exit (kblock_exit_here (kseq_normal ?_))))
        refine x_seq ?_
        refine x_region ?_
        refine xo_rl rfl (rl_own (q := 1) (v := .agg #[_, _, _]) tk24 rfl rfl rfl) ?_
        refine xo_rn rfl (rn_move rfl) ?_
        refine xo_freezeRow (q := 0) rfl (fun m_r1 hle_r1 hrow_r1 => ?_)
        obtain hl : js.length = bys.length := by omega
        have hl' := hl
        rw [hl, List.take_length] at hjs hle1
        have hin := IntsV.of_row hrow_r1 hic (by omega)
        replace hx0 := hx0.mono hle_r1
        replace hb0 := hb0.mono hle_r1
        replace hs0 := hs0.mono hle_r1
        dsimp only [List.eraseIdx]
        refine xo_call0 rfl cl24 (vs := [_, _]) rfl (Inst_spec _ _ _ _ _ hx0 hb0) (fun v56 m56 _ hle56 hq56 => ?_)
        obtain ⟨k56, n56, l56, a56, cap56, rfl, hv56⟩ := InstOut.flat hq56
        replace hx0 := hx0.mono hle56
        replace hb0 := hb0.mono hle56
        replace hs0 := hs0.mono hle56
        replace hin := hin.mono hle56
        refine xo_rn rfl (rn_move rfl) ?_
        refine xo_rn rfl (rn_extract rfl rfl) ?_
        refine xo_rn rfl (rn_extract rfl rfl) ?_
        refine xo_alloc rfl tz24 (cs := [_, _, _]) rfl (fun b9 => ?_)
        refine xo_store (q := 0) (vs := [_, _, _]) (cs' := [_, _, _]) (μ' := [_, _]) tk24 rfl rfl rfl rfl rfl rfl rfl rfl rfl ?_
        refine xo_rn rfl (rn_assign rfl) ?_
        refine xo_nil (kseq_normal ?_)
        refine x_seq ?_
        refine x_region ?_
        refine xo_rl rfl (rl_own (q := 1) (v := .agg #[_, _, _]) tk24 rfl rfl rfl) ?_
        refine xo_rn rfl (rn_move rfl) ?_
        refine xo_call0 rfl cl25 (vs := [_, _]) rfl (rInst_spec _ _ _ _ _ hx0 hb0) (fun v62 m62 _ hle62 hq62 => ?_)
        obtain ⟨k62, n62, l62, a62, cap62, rfl, hv62⟩ := InstOut.flat hq62
        replace hx0 := hx0.mono hle62
        replace hs0 := hs0.mono hle62
        replace hin := hin.mono hle62
        replace hv56 := hv56.mono hle62
        refine xo_rn rfl (rn_move rfl) ?_
        refine xo_rn rfl (rn_extract rfl rfl) ?_
        refine xo_rn rfl (rn_extract rfl rfl) ?_
        refine xo_alloc rfl tz24 (cs := [_, _, _]) rfl (fun b11 => ?_)
        refine xo_store (q := 0) (vs := [_, _, _]) (cs' := [_, _, _]) (μ' := [_, _, _]) tk24 rfl rfl rfl rfl rfl rfl rfl rfl rfl ?_
        refine xo_rn rfl (rn_assign rfl) ?_
        refine xo_nil (kseq_normal ?_)
        refine x_seq ?_
        refine x_seq ?_
        refine x_region ?_
        refine xo_rn rfl (rn_move rfl) ?_
        refine xo_rn rfl (rn_move rfl) ?_
        refine xo_rn rfl (rn_cast (v' := .bool false) (rn_neqB Try.underlying4 rfl rfl) (by simp)) ?_
        refine xo_rn rfl (rn_move rfl) ?_
        refine xo_guard_yes rfl rfl rfl ?_ rfl
        refine xo_rl rfl (rl_own (q := 1) (v := .agg #[_, _, _]) tk24 rfl rfl rfl) ?_
        refine xo_guard_yes rfl rfl rfl ?_ rfl
        refine xo_rl rfl (rl_own (q := 0) (v := .agg #[_, _, _]) tk24 rfl rfl rfl) ?_
        refine xo_guard_yes rfl rfl rfl ?_ rfl
        refine xo_callS rfl cl23 (vs := [_, _]) rfl (SameLevel_self hv56 hv62) ?_
        refine xo_guard_yes rfl rfl rfl ?_ rfl
        refine xo_rn rfl (rn_not rfl) ?_
        refine xo_rn rfl (rn_pick_f rfl rfl rfl) ?_
        refine xo_nil (kseq_normal ?_)
        refine x_cond_false rfl ?_
        refine x_skip (kseq_normal ?_)
        refine x_seq ?_
        refine x_env (ρ' := [(2, _), (3, _), (7, _), (9, _), (10, _)]) ⟨rfl, rfl, rfl, rfl, rfl, trivial⟩ ?_
        refine x_region_draw (by kernel_rfl) ?_
        refine xa_p (by kernel_rfl) 0 74 [10] rfl rfl rfl rfl rfl rfl rfl (pv_none (rn_move rfl)) ?_
        refine xa_p (by kernel_rfl) 1 75 [74] rfl rfl rfl rfl rfl rfl rfl (pv_none (rn_not rfl)) ?_
        refine xa_p (by kernel_rfl) 2 76 [75] rfl rfl rfl rfl rfl rfl rfl (pv_none (rn_move rfl)) ?_
        refine xa_split (t := 76) rfl (fun hg76 => ?_) (fun hg76 => ?_)
        · have hg76_p := hg76
          try rw [Bool.not_eq_true'] at hg76_p
          try rw [Bool.not_eq_false'] at hg76_p
          try rw [decide_eq_true_eq] at hg76_p
          try rw [decide_eq_false_iff_not] at hg76_p
          try rw [Int.not_lt] at hg76_p
          try rw [Int.not_le] at hg76_p
          refine xa_p (by kernel_rfl) 3 77 [9, 76] rfl rfl rfl rfl rfl rfl rfl (pv_skip rfl rfl (by rw [hg76]; decide)) ?_
          refine xa_p (by kernel_rfl) 4 78 [2, 76] rfl rfl rfl rfl rfl rfl rfl (pv_skip rfl rfl (by rw [hg76]; decide)) ?_
          refine xa_p (by kernel_rfl) 6 80 [3, 76] rfl rfl rfl rfl rfl rfl rfl (pv_skip rfl rfl (by rw [hg76]; decide)) ?_
          refine xa_p (by kernel_rfl) 7 81 [7, 76] rfl rfl rfl rfl rfl rfl rfl (pv_skip rfl rfl (by rw [hg76]; decide)) ?_
          refine xa_effect (by kernel_rfl) 5 rfl rfl (by kernel_rfl) [3, 4, 2, 1, 0] (by kernel_rfl) rfl (pp' := [_, _]) (pl' := []) (hid := [81, 80]) rfl rfl rfl ?_
          refine xo_guard_no rfl rfl (by rw [hg76]; decide) rfl ?_
          refine xo_nil ⟨⟨_, rfl⟩, fun _ hp => (by cases hp), ?_⟩
          refine xa_env (ρ' := [(81, _), (80, _), (79, _), (78, _), (77, _), (76, _), (75, _), (74, _), (2, _), (3, _), (7, _), (9, _), (10, _)]) rfl ?_
          refine xa_effect (by kernel_rfl) 8 rfl rfl (by kernel_rfl) [6, 7, 5, 2, 3, 4, 1, 0] (by kernel_rfl) rfl (pp' := []) (pl' := []) (hid := []) rfl rfl rfl ?_
          refine xo_guard_no rfl rfl (by rw [hg76]; decide) rfl ?_
          refine xo_nil ⟨⟨_, rfl⟩, fun _ hp => (by cases hp), ?_⟩
          refine xa_env (ρ' := [(82, _), (81, _), (80, _), (79, _), (78, _), (77, _), (76, _), (75, _), (74, _), (2, _), (3, _), (7, _), (9, _), (10, _)]) rfl ?_
          refine xa_p (by kernel_rfl) 9 83 [79, 82, 76] rfl rfl rfl rfl rfl rfl rfl (pv_skip rfl rfl (by rw [hg76]; decide)) ?_
          refine xa_p (by kernel_rfl) 10 84 [76, 83] rfl rfl rfl rfl rfl rfl rfl (pv_none (rn_pick_t rfl hg76 rfl)) ?_
          refine xa_p (by kernel_rfl) 11 6 [84] rfl rfl rfl rfl rfl rfl rfl (pv_none (rn_assign rfl)) ?_
          refine xa_end (by kernel_rfl) rfl (kseq_normal ?_)
          refine x_ret ?_
          refine ⟨rfl, [_], .cons (.tmp rfl) (.nil), fin_drop (μ' := []) (List.nil_sublist _) (fin_done (ret_tup1 ?_))⟩
          rfl
        · have hg76_p := hg76
          try rw [Bool.not_eq_true'] at hg76_p
          try rw [Bool.not_eq_false'] at hg76_p
          try rw [decide_eq_true_eq] at hg76_p
          try rw [decide_eq_false_iff_not] at hg76_p
          try rw [Int.not_lt] at hg76_p
          try rw [Int.not_le] at hg76_p
          refine xa_l (by kernel_rfl) 3 77 [9, 76] rfl rfl rfl rfl rfl rfl rfl (pvl_run rfl rfl hg76 (rl_own (q := 1) (v := .agg #[_, _, _]) tk24 rfl rfl rfl)) ?_
          refine xa_p (by kernel_rfl) 4 78 [2, 76] rfl rfl rfl rfl rfl rfl rfl (pv_run rfl rfl hg76 (rn_move rfl)) ?_
          refine xa_l (by kernel_rfl) 6 80 [3, 76] rfl rfl rfl rfl rfl rfl rfl (pvl_run rfl rfl hg76 (rl_own (q := 2) (v := .agg #[_, _, _]) tk24 rfl rfl rfl)) ?_
          refine xa_p (by kernel_rfl) 7 81 [7, 76] rfl rfl rfl rfl rfl rfl rfl (pv_run rfl rfl hg76 (rn_move rfl)) ?_
          refine xa_effect (by kernel_rfl) 5 rfl rfl (by kernel_rfl) [3, 4, 2, 1, 0] (by kernel_rfl) rfl (pp' := [_]) (pl' := [_]) (hid := [81, 80]) rfl rfl rfl ?_
          refine xo_guard_yes rfl rfl hg76 ?_ rfl
          refine xo_callS rfl cl15 (vs := [_, _]) rfl (Value_spec _ _ _ _ _ hv56 hs0) ?_
          refine xo_nil ⟨⟨_, rfl⟩, List.forall_mem_cons.2 ⟨pvl_run rfl rfl hg76 (rl_own (q := 2) (v := .agg #[_, _, _]) tk24 rfl rfl rfl), fun _ hp => (by cases hp)⟩, ?_⟩
          refine xa_env (ρ' := [(81, _), (80, _), (79, _), (78, _), (77, _), (76, _), (75, _), (74, _), (2, _), (3, _), (7, _), (9, _), (10, _)]) rfl ?_
          refine xa_effect (by kernel_rfl) 8 rfl rfl (by kernel_rfl) [6, 7, 5, 2, 3, 4, 1, 0] (by kernel_rfl) rfl (pp' := []) (pl' := []) (hid := []) rfl rfl rfl ?_
          refine xo_guard_yes rfl rfl hg76 ?_ rfl
          refine xo_callS rfl cl15 (vs := [_, _]) rfl (Value_spec _ _ _ _ _ hx0 hin) ?_
          refine xo_nil ⟨⟨_, rfl⟩, fun _ hp => (by cases hp), ?_⟩
          refine xa_env (ρ' := [(82, _), (81, _), (80, _), (79, _), (78, _), (77, _), (76, _), (75, _), (74, _), (2, _), (3, _), (7, _), (9, _), (10, _)]) rfl ?_
          have hfin : (Value.bool (decide (valueF ((InstF x bys).getD (.mk 0 0 [])) vs = valueF x js))) = .bool true := by
            obtain ⟨r, hr⟩ := Option.isSome_iff_exists.1 (by simpa using hg76 : (InstF x bys).isSome = true)
            rw [hr, Option.getD_some, inst_value vs hr hle1, ← hjs]
            simp
          refine xa_p (by kernel_rfl) 9 83 [79, 82, 76] rfl rfl rfl rfl rfl rfl rfl (pv_run rfl rfl hg76 (rn_cast (v' := .bool true) (rn_eql rfl rfl) (hfin))) ?_
          refine xa_p (by kernel_rfl) 10 84 [76, 83] rfl rfl rfl rfl rfl rfl rfl (pv_none (rn_pick_f rfl hg76 rfl)) ?_
          refine xa_p (by kernel_rfl) 11 6 [84] rfl rfl rfl rfl rfl rfl rfl (pv_none (rn_assign rfl)) ?_
          refine xa_end (by kernel_rfl) rfl (kseq_normal ?_)
          refine x_ret ?_
          refine ⟨rfl, [_], .cons (.tmp rfl) (.nil), fin_drop (μ' := []) (List.nil_sublist _) (fin_done (ret_tup1 ?_))⟩
          rfl

end Go.Proofs.Ytagilgmgacpffaa

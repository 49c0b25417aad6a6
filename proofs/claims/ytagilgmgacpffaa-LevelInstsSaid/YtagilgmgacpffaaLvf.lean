/-
  Contracts of the forms of package level.
-/
import Derived.Test.YtagilgmgacpffaaLvc
import Derived.ChangeKeysEq
import Derived.Laws.StructEq
namespace Go.Proofs.Ytagilgmgacpffaa
open Go Go.Gw

theorem form_und : Try.prog.underlying 48 = some (.struct (Try.prog.fieldsOf 48)) := by kernel_rfl
theorem form_fields : (Try.prog.fieldsOf 48).toList.map (fun f => (f.name, f.type, f.offset)) = [("num", 3, 0), ("off", 44, 1)] := by kernel_rfl
theorem form_held : Try.prog.stoodInHeld 48 = false := by kernel_rfl
theorem form_guard : Try.prog.eqGuardType Try.prog.depth 48 = false := by kernel_rfl
theorem int_inf : ∃ i, Try.prog.info? 3 = some i ∧ i.size = 1 := by
  have h : (Try.prog.info? 3).map (·.size) = some 1 := by kernel_rfl
  cases e : Try.prog.info? 3 with
  | none => rw [e] at h; cases h
  | some i => rw [e] at h; exact ⟨i, rfl, by simpa using h⟩
theorem int_cells : Try.prog.cellsOf 3 = 1 := by kernel_rfl
theorem arr_size : (Try.prog.info? 44).map (·.size) = some 4 := by kernel_rfl

theorem form_eql {n : Nat} {ρ : Env} {dst : Option Nat} {x y : Operand} {T' ty : TypeId} {pos : String} {after : Array Edge} {gd : Option (Nat × Bool)} {a0 a1 a2 a3 a4 b0 b1 b2 b3 b4 : Int}
    (hx : ov ρ x = some (.agg #[.int .i64 a0, .int .i64 a1, .int .i64 a2, .int .i64 a3, .int .i64 a4])) (hy : ov ρ y = some (.agg #[.int .i64 b0, .int .i64 b1, .int .i64 b2, .int .i64 b3, .int .i64 b4])) :
    Rn Try.prog n ρ ⟨dst, .binOp .eql 48 x y T', ty, pos, after, gd⟩ (.bool (decide (a0 = b0) && (decide (a1 = b1) && (decide (a2 = b2) && (decide (a3 = b3) && decide (a4 = b4)))))) := by
  refine rn_bin hx hy (fun w => run_eqGuard_agg w _ _ _ _ _ _ form_guard) (fun w => ?_)
  obtain ⟨i, hi, hsz⟩ := int_inf
  obtain ⟨f1, f2, hfl, h1, h2, h3, h4, h5, h6⟩ : ∃ f1 f2 : Field, (Try.prog.fieldsOf 48).toList = [f1, f2] ∧ f1.name = "num" ∧ f1.type = 3 ∧ f1.offset = 0 ∧ f2.name = "off" ∧ f2.type = 44 ∧ f2.offset = 1 := by
    have h := form_fields
    match hq : (Try.prog.fieldsOf 48).toList with
    | [] => rw [hq] at h; simp at h
    | [_] => rw [hq] at h; simp at h
    | [f1, f2] => rw [hq] at h; simp at h; exact ⟨f1, f2, rfl, h.1.1, h.1.2.1, h.1.2.2, h.2.1, h.2.2.1, h.2.2.2⟩
    | _ :: _ :: _ :: _ => rw [hq] at h; simp at h
  have hs4 : (sizeOf 44).run Try.prog w = .ok 4 w := by
    have h := arr_size
    cases e : Try.prog.info? 44 with
    | none => rw [e] at h; cases h
    | some j => rw [e] at h; simp at h; simp [sizeOf, typeInfo, e, h]
  have ha3 : (isAgg 3).run Try.prog w = .ok false w := by simp [isAgg, run_underlying Try.underlying3]
  have ha44 : (isAgg 44).run Try.prog w = .ok true w := by simp [isAgg, run_underlying Try.underlying44]
  rw [run_eql_struct, run_equalIn_struct w 9999 _ _ _ form_und form_held, hfl]
  have hr4 : List.range 4 = [0, 1, 2, 3] := rfl
  have p0 : ∀ (cs : Array Value) (q : Nat) (v : Value), cs[q]? = some v → (part 3 cs q).run Try.prog w = .ok v w := fun cs q v hv => by simp [part, ha3, hv]
  have p1 : ∀ (cs : Array Value) (q : Nat), (part 44 cs q).run Try.prog w = .ok (.agg (cs.extract q (q + 4))) w := fun cs q => by simp [part, ha44, hs4]
  have hit : ∀ (l : List Nat) (xs ys : Array Value) (f g : Nat → Int), (∀ j ∈ l, xs[j]? = some (.int .i64 (f j))) → (∀ j ∈ l, ys[j]? = some (.int .i64 (g j))) →
      (Op.eqItems 9998 3 1 xs ys l).run Try.prog w = .ok (l.all fun j => decide (f j = g j)) w := by
    intro l xs ys f g
    induction l with
    | nil => intro _ _; simp [Op.eqItems]
    | cons j l ih =>
      intro hf hg
      have e1 := p0 xs j _ (hf j List.mem_cons_self)
      have e2 := p0 ys j _ (hg j List.mem_cons_self)
      have e3 : (Op.equalIn 9998 3 (.int .i64 (f j)) (.int .i64 (g j))).run Try.prog w = .ok (f j == g j) w := run_equalIn_int (P := Try.prog) w 9997 3 .i64 .i64 (f j) (g j) Try.underlying3
      have e4 := ih (fun q hq => hf q (List.mem_cons_of_mem _ hq)) (fun q hq => hg q (List.mem_cons_of_mem _ hq))
      have hd : (f j == g j) = decide (f j = g j) := rfl
      simp only [Op.eqItems, Nat.mul_one, Sem.run_bind, e1, e2, e3, Result.andThen_ok, List.all_cons, hd]
      cases decide (f j = g j)
      · simp
      · simpa using e4
  have harr := run_equalIn_array (P := Try.prog) w 9998 (#[.int .i64 a0, .int .i64 a1, .int .i64 a2, .int .i64 a3, .int .i64 a4].extract 1 5) (#[.int .i64 b0, .int .i64 b1, .int .i64 b2, .int .i64 b3, .int .i64 b4].extract 1 5) Try.underlying44 hi
  rw [int_cells, hr4, hit [0, 1, 2, 3] _ _ (fun j => [a1, a2, a3, a4].getD j 0) (fun j => [b1, b2, b3, b4].getD j 0) (by simp) (by simp)] at harr
  have e0 : (Op.equalIn 9999 3 (.int .i64 a0) (.int .i64 b0)).run Try.prog w = .ok (a0 == b0) w := run_equalIn_int (P := Try.prog) w 9998 3 .i64 .i64 a0 b0 Try.underlying3
  have q1 := p0 #[.int .i64 a0, .int .i64 a1, .int .i64 a2, .int .i64 a3, .int .i64 a4] 0 (.int .i64 a0) rfl
  have q2 := p0 #[.int .i64 b0, .int .i64 b1, .int .i64 b2, .int .i64 b3, .int .i64 b4] 0 (.int .i64 b0) rfl
  have hd : (a0 == b0) = decide (a0 = b0) := rfl
  have harr' : (Op.equalIn 9999 44 (.agg (#[.int .i64 a0, .int .i64 a1, .int .i64 a2, .int .i64 a3, .int .i64 a4].extract 1 (1 + 4))) (.agg (#[.int .i64 b0, .int .i64 b1, .int .i64 b2, .int .i64 b3, .int .i64 b4].extract 1 (1 + 4)))).run Try.prog w = _ := harr
  simp only [Op.eqFields, h1, h2, h3, h4, h5, h6, ne_eq, reduceIte, show ¬ ("num" = "_") from by decide, show ¬ ("off" = "_") from by decide, not_false_eq_true, Sem.run_bind, q1, q2, e0, Result.andThen_ok, hd]
  cases decide (a0 = b0)
  · simp
  · simp only [Bool.not_true, Bool.false_eq_true, if_false, Sem.run_bind, p1, Result.andThen_ok, harr']
    simp only [List.all_cons, List.all_nil, Bool.and_true, List.getD_cons_zero, List.getD_cons_succ, Bool.true_and]
    cases (decide (a1 = b1) && (decide (a2 = b2) && (decide (a3 = b3) && decide (a4 = b4)))) <;> simp

theorem constant_spec (k : Int) (m : Mem) : Scal Try.prog 45 #[.int .i64 k] m (constF k).v := by
  refine scal_of ?_
  refine spec_body (vs := [_]) Try.func45 rfl Try.ntmps45 rfl (fun E => ?_)
  refine x_seq ?_
  refine x_region ?_
  refine xo_alloc rfl tz48 (cs := [_, _, _, _, _]) rfl (fun b2 => ?_)
  refine xo_nil (kseq_normal ?_)
  refine x_seq ?_
  refine x_region ?_
  refine xo_rn rfl (rn_move rfl) ?_
  refine xo_rn rfl (rn_build (pv := [(_, _)]) (zs := [_, _, _, _, _]) (cs := [_, _, _, _, _]) tpl48 tz48 rfl rfl rfl) ?_
  refine xo_alloc rfl tz48 (cs := [_, _, _, _, _]) rfl (fun b3 => ?_)
  refine xo_store (q := 0) (vs := [_, _, _, _, _]) (cs' := [_, _, _, _, _]) (μ' := [_, _]) tk48 rfl rfl rfl rfl rfl rfl rfl rfl rfl ?_
  refine xo_nil (kseq_normal ?_)
  refine x_seq ?_
  refine x_seq ?_
  refine x_region ?_
  refine xo_rn rfl (rn_move rfl) ?_
  refine xo_nil (kseq_normal ?_)
  refine x_block ?_
  refine x_loop (G := Nat) (fun g => [(7, .int .i64 (g : Int)), (3, .pointer (some ⟨b3, 0, none⟩)), (2, .pointer (some ⟨b2, 0, none⟩))])
    (fun g => [bx b3 48 [.int .i64 k, .int .i64 (mixTo g (fun _ => 0) (fun _ => -1) 0), .int .i64 (mixTo g (fun _ => 0) (fun _ => -1) 1), .int .i64 (mixTo g (fun _ => 0) (fun _ => -1) 2), .int .i64 (mixTo g (fun _ => 0) (fun _ => -1) 3)], bx b2 48 [.int .i64 0, .int .i64 0, .int .i64 0, .int .i64 0, .int .i64 0]])
    (fun g m' => g ≤ 4) (fun g => 4 - g) 0
    (by omega) ⟨rfl, rfl, rfl, trivial⟩ (.refl _) ?_
  rintro i m' hi hle
  refine x_seq ?_
  refine x_region ?_
  refine xo_rn rfl (rn_lss rfl rfl) ?_
  refine xo_nil (kseq_normal ?_)
  refine x_seq ?_
  refine x_cond rfl (fun hc8 => ?_) (fun hc8 => ?_)
  · have hc8b := hc8
    try rw [Bool.not_eq_true'] at hc8
    try rw [Bool.not_eq_false'] at hc8
    try rw [decide_eq_true_eq] at hc8
    try rw [decide_eq_false_iff_not] at hc8
    try rw [Int.not_lt] at hc8
    try rw [Int.not_le] at hc8
    refine x_skip (kseq_normal ?_)
    refine x_seq ?_
    refine x_block ?_
    refine x_seq ?_
    refine x_region ?_
    refine xo_rn rfl (rn_move rfl) ?_
    refine xo_rn rfl (rn_assign rfl) ?_
    refine xo_nil (kseq_normal ?_)
    refine x_region ?_
    refine xo_rn rfl (rn_move rfl) ?_
    refine xo_rn rfl (rn_fieldAddr tf48_1 rfl) ?_
    refine xo_rn rfl (rn_indexAddr_arr (q := i) tar44 rfl rfl rfl (by omega)) ?_
    refine xo_store (q := 0) (vs := [_]) (cs' := [.int .i64 k, .int .i64 (mixTo (i + 1) (fun _ => 0) (fun _ => -1) 0), .int .i64 (mixTo (i + 1) (fun _ => 0) (fun _ => -1) 1), .int .i64 (mixTo (i + 1) (fun _ => 0) (fun _ => -1) 2), .int .i64 (mixTo (i + 1) (fun _ => 0) (fun _ => -1) 3)]) (μ' := [_, _]) tk3 rfl rfl rfl rfl rfl rfl (by simp; omega) (mixTo_upd (by omega) rfl) rfl ?_
    refine xo_nil (kblock_normal (kseq_normal ?_))
    refine x_region ?_
    refine xo_rn rfl (by first | exact rn_addN rfl rfl (by unfold i64; omega) | exact rn_add rfl rfl) ?_
    refine xo_rn rfl (rn_move rfl) ?_
    refine xo_nil (kloop_normal ?_)
    refine ⟨i + 1, by omega, by omega, ⟨rfl, rfl, rfl, trivial⟩, .refl _, rfl, hle⟩
  · have hc8b := hc8
    try rw [Bool.not_eq_true'] at hc8
    try rw [Bool.not_eq_false'] at hc8
    try rw [decide_eq_true_eq] at hc8
    try rw [decide_eq_false_iff_not] at hc8
    try rw [Int.not_lt] at hc8
    try rw [Int.not_le] at hc8
    refine x_exit (kseq_exit (kloop_exit (kblock_exit_here (kseq_normal ?_))))
    refine x_seq ?_
    refine x_region ?_
    refine xo_rl rfl (rl_own (q := 0) (v := .agg #[_, _, _, _, _]) tk48 rfl rfl rfl) ?_
    refine xo_store (q := 1) (vs := [_, _, _, _, _]) (cs' := [_, _, _, _, _]) (μ' := [_, _]) tk48 rfl rfl rfl rfl rfl rfl rfl rfl rfl ?_
    refine xo_nil (kseq_normal ?_)
    refine x_ret ?_
    refine ⟨rfl, [_], .cons (.cell (q := 1) (v := .agg #[_, _, _, _, _]) rfl rfl tk48 rfl) (.nil), fin_drop (μ' := []) (List.nil_sublist _) (fin_done (ret_tup1 ?_))⟩
    obtain rfl : i = 4 := by omega
    rfl

theorem raise_spec (f : Fm) (m : Mem) (hf : f.ok 1000000) : Scal Try.prog 46 #[f.v] m (raiseF f).v := by
  obtain ⟨num, off⟩ := f
  obtain ⟨hn, ho⟩ := hf
  dsimp only at hn ho
  refine scal_of ?_
  show Cspec _ _ #[.agg #[.int .i64 num, .int .i64 (off 0), .int .i64 (off 1), .int .i64 (off 2), .int .i64 (off 3)]] _ _ _
  refine spec_body (vs := [_]) Try.func46 rfl Try.ntmps46 rfl (fun E => ?_)
  refine x_seq ?_
  refine x_region ?_
  refine xo_box rfl rfl (cs := [_, _, _, _, _]) rfl (fun b1 => ?_)
  refine xo_alloc rfl tz48 (cs := [_, _, _, _, _]) rfl (fun b2 => ?_)
  refine xo_nil (kseq_normal ?_)
  refine x_seq ?_
  refine x_seq ?_
  refine x_region ?_
  refine xo_rn rfl (rn_fieldAddr tf48_0 rfl) ?_
  refine xo_rl rfl (rl_own (q := 1) tk3 rfl rfl rfl) ?_
  refine xo_rn rfl (rn_neq rfl rfl) ?_
  refine xo_nil (kseq_normal ?_)
  refine x_cut (G := Unit) (fun _ => [(1, .pointer (some ⟨b1, 0, none⟩)), (2, .pointer (some ⟨b2, 0, none⟩))])
    (fun _ => [bx b2 48 [.int .i64 0, .int .i64 0, .int .i64 0, .int .i64 0, .int .i64 0], bx b1 48 [.int .i64 (rise num), .int .i64 (off 0), .int .i64 (off 1), .int .i64 (off 2), .int .i64 (off 3)]]) (fun _ m' => True) ?_ ?_
  · refine x_cond rfl (fun hc7 => ?_) (fun hc7 => ?_)
    · have hc7b := hc7
      try rw [Bool.not_eq_true'] at hc7
      try rw [Bool.not_eq_false'] at hc7
      try rw [decide_eq_true_eq] at hc7
      try rw [decide_eq_false_iff_not] at hc7
      try rw [Int.not_lt] at hc7
      try rw [Int.not_le] at hc7
      refine x_region ?_
      refine xo_rn rfl (rn_fieldAddr tf48_0 rfl) ?_
      refine xo_rl rfl (rl_own (q := 1) tk3 rfl rfl rfl) ?_
      refine xo_rn rfl (by first | exact rn_addN rfl rfl (by unfold i64; omega) | exact rn_add rfl rfl) ?_
      refine xo_rn rfl (rn_fieldAddr tf48_0 rfl) ?_
      refine xo_store (q := 1) (vs := [_]) (cs' := [_, _, _, _, _]) (μ' := [_, _]) tk3 rfl rfl rfl rfl rfl rfl rfl rfl rfl ?_
      refine xo_nil (kcut_normal ?_)
      have hr : rise num = num + 1 := by simp [rise, hc7]
      refine ⟨(), trivial, ⟨rfl, rfl, trivial⟩, ?_, rfl, Mem.le.refl _⟩
      rw [hr]
      exact .refl _
    · have hc7b := hc7
      try rw [Bool.not_eq_true'] at hc7
      try rw [Bool.not_eq_false'] at hc7
      try rw [decide_eq_true_eq] at hc7
      try rw [decide_eq_false_iff_not] at hc7
      try rw [Int.not_lt] at hc7
      try rw [Int.not_le] at hc7
      refine x_skip (kcut_normal ?_)
      have hr : rise num = num := by simp [rise, hc7]
      refine ⟨(), trivial, ⟨rfl, rfl, trivial⟩, ?_, rfl, Mem.le.refl _⟩
      rw [hr]
      exact .refl _
  · rintro _ m0 _ hle0
    refine kseq_normal ?_
    refine x_seq ?_
    refine x_seq ?_
    refine x_region ?_
    refine xo_rn rfl (rn_fieldAddr tf48_1 rfl) ?_
    refine xo_rl rfl (rl_own (q := 1) (v := .agg #[_, _, _, _]) tk44 rfl rfl rfl) ?_
    refine xo_rn rfl (rn_move rfl) ?_
    refine xo_nil (kseq_normal ?_)
    refine x_block ?_
    refine x_loop (G := Nat) (fun g => [(14, .int .i64 (g : Int)), (13, .agg #[.int .i64 (off 0), .int .i64 (off 1), .int .i64 (off 2), .int .i64 (off 3)]), (1, .pointer (some ⟨b1, 0, none⟩)), (2, .pointer (some ⟨b2, 0, none⟩))])
      (fun g => [bx b2 48 [.int .i64 0, .int .i64 0, .int .i64 0, .int .i64 0, .int .i64 0], bx b1 48 [.int .i64 (rise num), .int .i64 (mixTo g off (fun j => rise (off j)) 0), .int .i64 (mixTo g off (fun j => rise (off j)) 1), .int .i64 (mixTo g off (fun j => rise (off j)) 2), .int .i64 (mixTo g off (fun j => rise (off j)) 3)]])
      (fun g m' => g ≤ 4) (fun g => 4 - g) 0
      (by omega) ⟨rfl, rfl, rfl, rfl, trivial⟩ (.refl _) ?_
    rintro i m' hi hle
    refine x_seq ?_
    refine x_region ?_
    refine xo_rn rfl (rn_lss rfl rfl) ?_
    refine xo_nil (kseq_normal ?_)
    refine x_seq ?_
    refine x_cond rfl (fun hc15 => ?_) (fun hc15 => ?_)
    · have hc15b := hc15
      try rw [Bool.not_eq_true'] at hc15
      try rw [Bool.not_eq_false'] at hc15
      try rw [decide_eq_true_eq] at hc15
      try rw [decide_eq_false_iff_not] at hc15
      try rw [Int.not_lt] at hc15
      try rw [Int.not_le] at hc15
      refine x_skip (kseq_normal ?_)
      refine x_seq ?_
      refine x_block ?_
      refine x_seq ?_
      refine x_region ?_
      refine xo_rn rfl (rn_move rfl) ?_
      refine xo_rn rfl (rn_index_arr (q := i) tar44 tk3 rfl rfl rfl (by omega) (off_get (by omega))) ?_
      refine xo_rn rfl (rn_assign rfl) ?_
      refine xo_rn rfl (rn_assign rfl) ?_
      refine xo_nil (kseq_normal ?_)
      refine x_seq ?_
      refine x_region ?_
      refine xo_rn rfl (rn_move rfl) ?_
      refine xo_rn rfl (rn_neq rfl rfl) ?_
      refine xo_nil (kseq_normal ?_)
      refine x_cond rfl (fun hc19 => ?_) (fun hc19 => ?_)
      · have hc19b := hc19
        try rw [Bool.not_eq_true'] at hc19
        try rw [Bool.not_eq_false'] at hc19
        try rw [decide_eq_true_eq] at hc19
        try rw [decide_eq_false_iff_not] at hc19
        try rw [Int.not_lt] at hc19
        try rw [Int.not_le] at hc19
        have hoi := ho i
        rw [← mixTo_at i off (fun j => rise (off j))] at hoi
        refine x_region ?_
        refine xo_rn rfl (rn_move rfl) ?_
        refine xo_rn rfl (rn_fieldAddr tf48_1 rfl) ?_
        refine xo_rn rfl (rn_indexAddr_arr (q := i) tar44 rfl rfl rfl (by omega)) ?_
        refine xo_rl rfl (rl_own (q := 1) tk3 rfl rfl (mixTo_get (by omega))) ?_
        refine xo_rn rfl (by first | exact rn_addN rfl rfl (by unfold i64; omega) | exact rn_add rfl rfl) ?_
        refine xo_rn rfl (rn_fieldAddr tf48_1 rfl) ?_
        refine xo_rn rfl (rn_indexAddr_arr (q := i) tar44 rfl rfl rfl (by omega)) ?_
        refine xo_store (q := 1) (vs := [_]) (cs' := [.int .i64 (rise num), .int .i64 (mixTo (i + 1) off (fun j => rise (off j)) 0), .int .i64 (mixTo (i + 1) off (fun j => rise (off j)) 1), .int .i64 (mixTo (i + 1) off (fun j => rise (off j)) 2), .int .i64 (mixTo (i + 1) off (fun j => rise (off j)) 3)]) (μ' := [_, _]) tk3 rfl rfl rfl rfl rfl rfl (by simp; omega) (mixTo_upd (by omega) (by simp [rise, hc19, mixTo])) rfl ?_
        refine xo_nil (kblock_normal (kseq_normal ?_))
        refine x_region ?_
        refine xo_rn rfl (by first | exact rn_addN rfl rfl (by unfold i64; omega) | exact rn_add rfl rfl) ?_
        refine xo_rn rfl (rn_move rfl) ?_
        refine xo_nil (kloop_normal ?_)
        refine ⟨i + 1, by omega, by omega, ⟨rfl, rfl, rfl, rfl, trivial⟩, .refl _, rfl, hle⟩
      · have hc19b := hc19
        try rw [Bool.not_eq_true'] at hc19
        try rw [Bool.not_eq_false'] at hc19
        try rw [decide_eq_true_eq] at hc19
        try rw [decide_eq_false_iff_not] at hc19
        try rw [Int.not_lt] at hc19
        try rw [Int.not_le] at hc19
        refine x_skip (kblock_normal (kseq_normal ?_))
        refine x_region ?_
        refine xo_rn rfl (by first | exact rn_addN rfl rfl (by unfold i64; omega) | exact rn_add rfl rfl) ?_
        refine xo_rn rfl (rn_move rfl) ?_
        refine xo_nil (kloop_normal ?_)
        refine ⟨i + 1, by omega, by omega, ⟨rfl, rfl, rfl, rfl, trivial⟩, ?_, rfl, hle⟩
        dsimp only
        rw [mixTo_same (by simp [rise, hc19])]
        exact .refl _
    · have hc15b := hc15
      try rw [Bool.not_eq_true'] at hc15
      try rw [Bool.not_eq_false'] at hc15
      try rw [decide_eq_true_eq] at hc15
      try rw [decide_eq_false_iff_not] at hc15
      try rw [Int.not_lt] at hc15
      try rw [Int.not_le] at hc15
      refine x_exit (kseq_exit (kloop_exit (kblock_exit_here (kseq_normal ?_))))
      refine x_seq ?_
      refine x_region ?_
      refine xo_rl rfl (rl_own (q := 1) (v := .agg #[_, _, _, _, _]) tk48 rfl rfl rfl) ?_
      refine xo_store (q := 0) (vs := [_, _, _, _, _]) (cs' := [_, _, _, _, _]) (μ' := [_, _]) tk48 rfl rfl rfl rfl rfl rfl rfl rfl rfl ?_
      refine xo_nil (kseq_normal ?_)
      refine x_ret ?_
      refine ⟨rfl, [_], .cons (.cell (q := 0) (v := .agg #[_, _, _, _, _]) rfl rfl tk48 rfl) (.nil), fin_drop (μ' := []) (List.nil_sublist _) (fin_done (ret_tup1 ?_))⟩
      obtain rfl : i = 4 := by omega
      rfl

theorem zero_spec (f : Fm) (m : Mem) : Scal Try.prog 47 #[f.v] m (.bool (zeroF f)) := by
  obtain ⟨num, off⟩ := f
  refine scal_of ?_
  show Cspec _ _ #[.agg #[.int .i64 num, .int .i64 (off 0), .int .i64 (off 1), .int .i64 (off 2), .int .i64 (off 3)]] _ _ _
  refine spec_body (vs := [_]) Try.func47 rfl Try.ntmps47 rfl (fun E => ?_)
  refine x_seq ?_
  refine x_region ?_
  refine xo_box rfl rfl (cs := [_, _, _, _, _]) rfl (fun b1 => ?_)
  refine xo_rn rfl (rn_assign rfl) ?_
  refine xo_nil (kseq_normal ?_)
  refine x_seq ?_
  refine x_env (ρ' := [(1, _), (2, _)]) ⟨rfl, rfl, trivial⟩ ?_
  refine x_region_draw (by kernel_rfl) ?_
  refine xa_l (by kernel_rfl) 0 3 [1] rfl rfl rfl rfl rfl rfl rfl (pvl_none (rl_own (q := 0) (v := .agg #[_, _, _, _, _]) tk48 rfl rfl rfl)) ?_
  refine xa_effect (by kernel_rfl) 1 rfl rfl (by kernel_rfl) [] (by kernel_rfl) rfl (pp' := []) (pl' := [_]) (hid := [3]) rfl rfl rfl ?_
  refine xo_callS rfl cl45 (vs := [_]) rfl (constant_spec 0 _) ?_
  refine xo_nil ⟨⟨_, rfl⟩, List.forall_mem_cons.2 ⟨pvl_none (rl_own (q := 0) (v := .agg #[_, _, _, _, _]) tk48 rfl rfl rfl), fun _ hp => (by cases hp)⟩, ?_⟩
  refine xa_env (ρ' := [(3, _), (4, _), (1, _), (2, _)]) rfl ?_
  refine xa_p (by kernel_rfl) 2 5 [3, 4] rfl rfl rfl rfl rfl rfl rfl (pv_none (form_eql rfl rfl)) ?_
  refine xa_p (by kernel_rfl) 3 2 [5] rfl rfl rfl rfl rfl rfl rfl (pv_none (rn_assign rfl)) ?_
  refine xa_end (by kernel_rfl) rfl (kseq_normal ?_)
  refine x_ret ?_
  refine ⟨rfl, [_], .cons (.tmp rfl) (.nil), fin_drop (μ' := []) (List.nil_sublist _) (fin_done (ret_tup1 ?_))⟩
  rfl

theorem join_spec (f g : Fm) (m : Mem) : Scal Try.prog 48 #[f.v, g.v] m (joinF f g).v := by
  obtain ⟨num, off⟩ := f
  obtain ⟨num2, off2⟩ := g
  refine scal_of ?_
  show Cspec _ _ #[.agg #[.int .i64 num, .int .i64 (off 0), .int .i64 (off 1), .int .i64 (off 2), .int .i64 (off 3)], .agg #[.int .i64 num2, .int .i64 (off2 0), .int .i64 (off2 1), .int .i64 (off2 2), .int .i64 (off2 3)]] _ _ _
  refine spec_body (vs := [_, _]) Try.func48 rfl Try.ntmps48 rfl (fun E => ?_)
  refine x_seq ?_
  refine x_region ?_
  refine xo_box rfl rfl (cs := [_, _, _, _, _]) rfl (fun b2 => ?_)
  refine xo_box rfl rfl (cs := [_, _, _, _, _]) rfl (fun b3 => ?_)
  refine xo_alloc rfl tz48 (cs := [_, _, _, _, _]) rfl (fun b4 => ?_)
  refine xo_nil (kseq_normal ?_)
  refine x_seq ?_
  refine x_region ?_
  refine xo_rn rfl (rn_fieldAddr tf48_0 rfl) ?_
  refine xo_rl rfl (rl_own (q := 2) tk3 rfl rfl rfl) ?_
  refine xo_rn rfl (rn_fieldAddr tf48_0 rfl) ?_
  refine xo_rl rfl (rl_own (q := 1) tk3 rfl rfl rfl) ?_
  refine xo_rn rfl (rn_max rfl rfl) ?_
  refine xo_rn rfl (rn_fieldAddr tf48_0 rfl) ?_
  refine xo_store (q := 2) (vs := [_]) (cs' := [_, _, _, _, _]) (μ' := [_, _, _]) tk3 rfl rfl rfl rfl rfl rfl rfl rfl rfl ?_
  refine xo_nil (kseq_normal ?_)
  refine x_seq ?_
  refine x_seq ?_
  refine x_region ?_
  refine xo_rn rfl (rn_fieldAddr tf48_1 rfl) ?_
  refine xo_rl rfl (rl_own (q := 1) (v := .agg #[_, _, _, _]) tk44 rfl rfl rfl) ?_
  refine xo_rn rfl (rn_move rfl) ?_
  refine xo_nil (kseq_normal ?_)
  refine x_block ?_
  refine x_loop (G := Nat) (fun g => [(15, .int .i64 (g : Int)), (14, .agg #[.int .i64 (off2 0), .int .i64 (off2 1), .int .i64 (off2 2), .int .i64 (off2 3)]), (2, .pointer (some ⟨b2, 0, none⟩)), (4, .pointer (some ⟨b4, 0, none⟩))])
    (fun g => [bx b4 48 [.int .i64 0, .int .i64 0, .int .i64 0, .int .i64 0, .int .i64 0], bx b2 48 [.int .i64 (max num num2), .int .i64 (mixTo g off (fun j => max (off j) (off2 j)) 0), .int .i64 (mixTo g off (fun j => max (off j) (off2 j)) 1), .int .i64 (mixTo g off (fun j => max (off j) (off2 j)) 2), .int .i64 (mixTo g off (fun j => max (off j) (off2 j)) 3)]])
    (fun g m' => g ≤ 4) (fun g => 4 - g) 0
    (by omega) ⟨rfl, rfl, rfl, rfl, trivial⟩ (.cons_cons _ (.cons _ (.refl _))) ?_
  rintro i m' hi hle
  refine x_seq ?_
  refine x_region ?_
  refine xo_rn rfl (rn_lss rfl rfl) ?_
  refine xo_nil (kseq_normal ?_)
  refine x_seq ?_
  refine x_cond rfl (fun hc16 => ?_) (fun hc16 => ?_)
  · have hc16b := hc16
    try rw [Bool.not_eq_true'] at hc16
    try rw [Bool.not_eq_false'] at hc16
    try rw [decide_eq_true_eq] at hc16
    try rw [decide_eq_false_iff_not] at hc16
    try rw [Int.not_lt] at hc16
    try rw [Int.not_le] at hc16
    refine x_skip (kseq_normal ?_)
    refine x_seq ?_
    refine x_block ?_
    refine x_seq ?_
    refine x_region ?_
    refine xo_rn rfl (rn_move rfl) ?_
    refine xo_rn rfl (rn_index_arr (q := i) tar44 tk3 rfl rfl rfl (by omega) (off_get (by omega))) ?_
    refine xo_rn rfl (rn_assign rfl) ?_
    refine xo_rn rfl (rn_assign rfl) ?_
    refine xo_nil (kseq_normal ?_)
    refine x_region ?_
    refine xo_rn rfl (rn_move rfl) ?_
    refine xo_rn rfl (rn_move rfl) ?_
    refine xo_rn rfl (rn_fieldAddr tf48_1 rfl) ?_
    refine xo_rn rfl (rn_indexAddr_arr (q := i) tar44 rfl rfl rfl (by omega)) ?_
    refine xo_rl rfl (rl_own (q := 1) tk3 rfl rfl (mixTo_get (by omega))) ?_
    refine xo_rn rfl (rn_move rfl) ?_
    refine xo_rn rfl (rn_max rfl rfl) ?_
    refine xo_rn rfl (rn_fieldAddr tf48_1 rfl) ?_
    refine xo_rn rfl (rn_indexAddr_arr (q := i) tar44 rfl rfl rfl (by omega)) ?_
    refine xo_store (q := 1) (vs := [_]) (cs' := [.int .i64 (max num num2), .int .i64 (mixTo (i + 1) off (fun j => max (off j) (off2 j)) 0), .int .i64 (mixTo (i + 1) off (fun j => max (off j) (off2 j)) 1), .int .i64 (mixTo (i + 1) off (fun j => max (off j) (off2 j)) 2), .int .i64 (mixTo (i + 1) off (fun j => max (off j) (off2 j)) 3)]) (μ' := [_, _]) tk3 rfl rfl rfl rfl rfl rfl (by simp; omega) (mixTo_upd (by omega) (by simp [mixTo])) rfl ?_
    refine xo_nil (kblock_normal (kseq_normal ?_))
    refine x_region ?_
    refine xo_rn rfl (by first | exact rn_addN rfl rfl (by unfold i64; omega) | exact rn_add rfl rfl) ?_
    refine xo_rn rfl (rn_move rfl) ?_
    refine xo_nil (kloop_normal ?_)
    refine ⟨i + 1, by omega, by omega, ⟨rfl, rfl, rfl, rfl, trivial⟩, .refl _, rfl, hle⟩
  · have hc16b := hc16
    try rw [Bool.not_eq_true'] at hc16
    try rw [Bool.not_eq_false'] at hc16
    try rw [decide_eq_true_eq] at hc16
    try rw [decide_eq_false_iff_not] at hc16
    try rw [Int.not_lt] at hc16
    try rw [Int.not_le] at hc16
    refine x_exit (kseq_exit (kloop_exit (kblock_exit_here (kseq_normal ?_))))
    refine x_seq ?_
    refine x_region ?_
    refine xo_rl rfl (rl_own (q := 1) (v := .agg #[_, _, _, _, _]) tk48 rfl rfl rfl) ?_
    refine xo_store (q := 0) (vs := [_, _, _, _, _]) (cs' := [_, _, _, _, _]) (μ' := [_, _]) tk48 rfl rfl rfl rfl rfl rfl rfl rfl rfl ?_
    refine xo_nil (kseq_normal ?_)
    refine x_ret ?_
    refine ⟨rfl, [_], .cons (.cell (q := 0) (v := .agg #[_, _, _, _, _]) rfl rfl tk48 rfl) (.nil), fin_drop (μ' := []) (List.nil_sublist _) (fin_done (ret_tup1 ?_))⟩
    obtain rfl : i = 4 := by omega
    rfl

theorem least_spec (f : Fm) (m : Mem) (hf : f.ok 1000000) : Scal Try.prog 49 #[f.v] m (.int .i64 (leastF f)) := by
  obtain ⟨num, off⟩ := f
  obtain ⟨hn, ho⟩ := hf
  dsimp only at hn ho
  refine scal_of ?_
  show Cspec _ _ #[.agg #[.int .i64 num, .int .i64 (off 0), .int .i64 (off 1), .int .i64 (off 2), .int .i64 (off 3)]] _ _ _
  refine spec_body (vs := [_]) Try.func49 rfl Try.ntmps49 rfl (fun E => ?_)
  refine x_seq ?_
  refine x_region ?_
  refine xo_box rfl rfl (cs := [_, _, _, _, _]) rfl (fun b1 => ?_)
  refine xo_rn rfl (rn_assign rfl) ?_
  refine xo_nil (kseq_normal ?_)
  refine x_seq ?_
  refine x_region ?_
  refine xo_rn rfl (rn_fieldAddr tf48_0 rfl) ?_
  refine xo_rl rfl (rl_own (q := 0) tk3 rfl rfl rfl) ?_
  refine xo_rn rfl (rn_assign rfl) ?_
  refine xo_nil (kseq_normal ?_)
  refine x_seq ?_
  refine x_seq ?_
  refine x_region ?_
  refine xo_rn rfl (rn_fieldAddr tf48_1 rfl) ?_
  refine xo_rl rfl (rl_own (q := 0) (v := .agg #[_, _, _, _]) tk44 rfl rfl rfl) ?_
  refine xo_rn rfl (rn_move rfl) ?_
  refine xo_nil (kseq_normal ?_)
  refine x_block ?_
  refine x_loop (G := Nat) (fun g => [(10, .int .i64 (g : Int)), (9, .agg #[.int .i64 (off 0), .int .i64 (off 1), .int .i64 (off 2), .int .i64 (off 3)]), (3, .int .i64 (leastTo ⟨num, off⟩ g))])
    (fun g => []) (fun g m' => g ≤ 4) (fun g => 4 - g) 0
    (by omega) ⟨rfl, rfl, rfl, trivial⟩ (List.nil_sublist _) ?_
  rintro i m' hi hle
  refine x_seq ?_
  refine x_region ?_
  refine xo_rn rfl (rn_lss rfl rfl) ?_
  refine xo_nil (kseq_normal ?_)
  refine x_seq ?_
  refine x_cond rfl (fun hc11 => ?_) (fun hc11 => ?_)
  · have hc11b := hc11
    try rw [Bool.not_eq_true'] at hc11
    try rw [Bool.not_eq_false'] at hc11
    try rw [decide_eq_true_eq] at hc11
    try rw [decide_eq_false_iff_not] at hc11
    try rw [Int.not_lt] at hc11
    try rw [Int.not_le] at hc11
    refine x_skip (kseq_normal ?_)
    refine x_seq ?_
    refine x_block ?_
    refine x_seq ?_
    refine x_region ?_
    refine xo_rn rfl (rn_index_arr (q := i) tar44 tk3 rfl rfl rfl (by omega) (off_get (by omega))) ?_
    refine xo_rn rfl (rn_assign rfl) ?_
    refine xo_nil (kseq_normal ?_)
    refine x_seq ?_
    refine x_region ?_
    refine xo_rn rfl (rn_move rfl) ?_
    refine xo_rn rfl (rn_neq rfl rfl) ?_
    refine xo_nil (kseq_normal ?_)
    refine x_cond rfl (fun hc14 => ?_) (fun hc14 => ?_)
    · have hc14b := hc14
      try rw [Bool.not_eq_true'] at hc14
      try rw [Bool.not_eq_false'] at hc14
      try rw [decide_eq_true_eq] at hc14
      try rw [decide_eq_false_iff_not] at hc14
      try rw [Int.not_lt] at hc14
      try rw [Int.not_le] at hc14
      have hoi := ho i
      refine x_region ?_
      refine xo_rn rfl (rn_move rfl) ?_
      refine xo_rn rfl (rn_move rfl) ?_
      refine xo_rn rfl (by first | exact rn_addN rfl rfl (by unfold i64; omega) | exact rn_add rfl rfl) ?_
      refine xo_rn rfl (rn_max rfl rfl) ?_
      refine xo_rn rfl (rn_assign rfl) ?_
      refine xo_nil (kblock_normal (kseq_normal ?_))
      refine x_region ?_
      refine xo_rn rfl (by first | exact rn_addN rfl rfl (by unfold i64; omega) | exact rn_add rfl rfl) ?_
      refine xo_rn rfl (rn_move rfl) ?_
      refine xo_nil (kloop_normal ?_)
      refine ⟨i + 1, by omega, by omega, ⟨rfl, rfl, ?_, trivial⟩, List.nil_sublist _, rfl, hle⟩
      show some _ = some _
      rw [leastTo, if_neg (by simpa using hc14)]
    · have hc14b := hc14
      try rw [Bool.not_eq_true'] at hc14
      try rw [Bool.not_eq_false'] at hc14
      try rw [decide_eq_true_eq] at hc14
      try rw [decide_eq_false_iff_not] at hc14
      try rw [Int.not_lt] at hc14
      try rw [Int.not_le] at hc14
      refine x_skip (kblock_normal (kseq_normal ?_))
      refine x_region ?_
      refine xo_rn rfl (by first | exact rn_addN rfl rfl (by unfold i64; omega) | exact rn_add rfl rfl) ?_
      refine xo_rn rfl (rn_move rfl) ?_
      refine xo_nil (kloop_normal ?_)
      refine ⟨i + 1, by omega, by omega, ⟨rfl, rfl, ?_, trivial⟩, List.nil_sublist _, rfl, hle⟩
      show some _ = some _
      rw [leastTo, if_pos (by simpa using hc14)]
  · have hc11b := hc11
    try rw [Bool.not_eq_true'] at hc11
    try rw [Bool.not_eq_false'] at hc11
    try rw [decide_eq_true_eq] at hc11
    try rw [decide_eq_false_iff_not] at hc11
    try rw [Int.not_lt] at hc11
    try rw [Int.not_le] at hc11
    refine x_exit (kseq_exit (kloop_exit (kblock_exit_here (kseq_normal ?_))))
    refine x_seq ?_
    refine x_region ?_
    refine xo_rn rfl (rn_move rfl) ?_
    refine xo_rn rfl (rn_assign rfl) ?_
    refine xo_nil (kseq_normal ?_)
    refine x_ret ?_
    refine ⟨rfl, [_], .cons (.tmp rfl) (.nil), fin_done (ret_tup1 ?_)⟩
    obtain rfl : i = 4 := by omega
    rfl

theorem below_spec (f g : Fm) (m : Mem) (hg : g.ok 1000000) : Scal Try.prog 36 #[f.v, g.v] m (.bool (belowF f g)) := by
  obtain ⟨num, off⟩ := f
  obtain ⟨num2, off2⟩ := g
  refine scal_of ?_
  show Cspec _ _ #[.agg #[.int .i64 num, .int .i64 (off 0), .int .i64 (off 1), .int .i64 (off 2), .int .i64 (off 3)], .agg #[.int .i64 num2, .int .i64 (off2 0), .int .i64 (off2 1), .int .i64 (off2 2), .int .i64 (off2 3)]] _ _ _
  refine spec_body (vs := [_, _]) Try.func36 rfl Try.ntmps36 rfl (fun E => ?_)
  refine x_seq ?_
  refine x_region ?_
  refine xo_box rfl rfl (cs := [_, _, _, _, _]) rfl (fun b2 => ?_)
  refine xo_box rfl rfl (cs := [_, _, _, _, _]) rfl (fun b3 => ?_)
  refine xo_rn rfl (rn_assign rfl) ?_
  refine xo_nil (kseq_normal ?_)
  refine x_seq ?_
  refine x_seq ?_
  refine x_region ?_
  refine xo_rn rfl (rn_fieldAddr tf48_1 rfl) ?_
  refine xo_rl rfl (rl_own (q := 1) (v := .agg #[_, _, _, _]) tk44 rfl rfl rfl) ?_
  refine xo_rn rfl (rn_move rfl) ?_
  refine xo_nil (kseq_normal ?_)
  refine x_block ?_
  refine x_loop (G := Nat) (fun g => [(9, .int .i64 (g : Int)), (8, .agg #[.int .i64 (off 0), .int .i64 (off 1), .int .i64 (off 2), .int .i64 (off 3)]), (3, .pointer (some ⟨b3, 0, none⟩)), (2, .pointer (some ⟨b2, 0, none⟩))])
    (fun g => [bx b3 48 [.int .i64 num2, .int .i64 (off2 0), .int .i64 (off2 1), .int .i64 (off2 2), .int .i64 (off2 3)], bx b2 48 [.int .i64 num, .int .i64 (off 0), .int .i64 (off 1), .int .i64 (off 2), .int .i64 (off 3)]])
    (fun g m' => g ≤ 4 ∧ offsTo ⟨num, off⟩ ⟨num2, off2⟩ g = true) (fun g => 4 - g) 0
    ⟨by omega, rfl⟩ ⟨rfl, rfl, rfl, rfl, trivial⟩ (.refl _) ?_
  rintro i m' ⟨hi, hoff⟩ hle
  refine x_seq ?_
  refine x_region ?_
  refine xo_rn rfl (rn_lss rfl rfl) ?_
  refine xo_nil (kseq_normal ?_)
  refine x_seq ?_
  refine x_cond rfl (fun hc10 => ?_) (fun hc10 => ?_)
  · have hc10b := hc10
    try rw [Bool.not_eq_true'] at hc10
    try rw [Bool.not_eq_false'] at hc10
    try rw [decide_eq_true_eq] at hc10
    try rw [decide_eq_false_iff_not] at hc10
    try rw [Int.not_lt] at hc10
    try rw [Int.not_le] at hc10
    refine x_skip (kseq_normal ?_)
    refine x_seq ?_
    refine x_block ?_
    refine x_seq ?_
    refine x_region ?_
    refine xo_rn rfl (rn_move rfl) ?_
    refine xo_rn rfl (rn_index_arr (q := i) tar44 tk3 rfl rfl rfl (by omega) (off_get (by omega))) ?_
    refine xo_rn rfl (rn_assign rfl) ?_
    refine xo_rn rfl (rn_assign rfl) ?_
    refine xo_nil (kseq_normal ?_)
    refine x_seq ?_
    refine x_region ?_
    refine xo_rn rfl (rn_move rfl) ?_
    refine xo_rn rfl (rn_move rfl) ?_
    refine xo_rn rfl (rn_fieldAddr tf48_1 rfl) ?_
    refine xo_rn rfl (rn_indexAddr_arr (q := i) tar44 rfl rfl rfl (by omega)) ?_
    refine xo_rl rfl (rl_own (q := 0) tk3 rfl rfl (off_get1 (by omega))) ?_
    refine xo_rn rfl (rn_gtr rfl rfl) ?_
    refine xo_nil (kseq_normal ?_)
    refine x_cond rfl (fun hc18 => ?_) (fun hc18 => ?_)
    · have hc18b := hc18
      try rw [Bool.not_eq_true'] at hc18
      try rw [Bool.not_eq_false'] at hc18
      try rw [decide_eq_true_eq] at hc18
      try rw [decide_eq_false_iff_not] at hc18
      try rw [Int.not_lt] at hc18
      try rw [Int.not_le] at hc18
      refine x_seq ?_
      refine x_region ?_
      refine xo_rn rfl (rn_assign rfl) ?_
      refine xo_nil (kseq_normal ?_)
      refine x_ret (kblock_ret (kseq_ret (kloop_ret (kblock_ret (kseq_ret ?_)))))
      refine ⟨rfl, [_], .cons (.tmp rfl) (.nil), fin_drop (μ' := []) (List.nil_sublist _) (fin_done (ret_tup1 ?_))⟩
      rw [belowF, offsTo_false (i := i) (by omega) (by simpa using hc18)]
      rfl
    · have hc18b := hc18
      try rw [Bool.not_eq_true'] at hc18
      try rw [Bool.not_eq_false'] at hc18
      try rw [decide_eq_true_eq] at hc18
      try rw [decide_eq_false_iff_not] at hc18
      try rw [Int.not_lt] at hc18
      try rw [Int.not_le] at hc18
      refine x_skip (kblock_normal (kseq_normal ?_))
      refine x_region ?_
      refine xo_rn rfl (by first | exact rn_addN rfl rfl (by unfold i64; omega) | exact rn_add rfl rfl) ?_
      refine xo_rn rfl (rn_move rfl) ?_
      refine xo_nil (kloop_normal ?_)
      refine ⟨i + 1, by omega, ⟨by omega, ?_⟩, ⟨rfl, rfl, rfl, rfl, trivial⟩, .refl _, rfl, hle⟩
      simp [offsTo, hoff, hc18]
  · have hc10b := hc10
    try rw [Bool.not_eq_true'] at hc10
    try rw [Bool.not_eq_false'] at hc10
    try rw [decide_eq_true_eq] at hc10
    try rw [decide_eq_false_iff_not] at hc10
    try rw [Int.not_lt] at hc10
    try rw [Int.not_le] at hc10
    refine x_exit (kseq_exit (kloop_exit (kblock_exit_here (kseq_normal ?_))))
    refine x_seq ?_
    refine x_env (ρ' := [(2, _), (3, _)]) ⟨rfl, rfl, trivial⟩ ?_
    refine x_region_draw (by kernel_rfl) ?_
    refine xa_p (by kernel_rfl) 0 20 [2] rfl rfl rfl rfl rfl rfl rfl (pv_none (rn_fieldAddr tf48_0 rfl)) ?_
    refine xa_l (by kernel_rfl) 1 21 [20] rfl rfl rfl rfl rfl rfl rfl (pvl_none (rl_own (q := 1) tk3 rfl rfl rfl)) ?_
    refine xa_l (by kernel_rfl) 2 22 [3] rfl rfl rfl rfl rfl rfl rfl (pvl_none (rl_own (q := 0) (v := .agg #[_, _, _, _, _]) tk48 rfl rfl rfl)) ?_
    refine xa_effect (by kernel_rfl) 3 rfl rfl (by kernel_rfl) [2] (by kernel_rfl) rfl (pp' := [_]) (pl' := [_]) (hid := [20, 21]) rfl rfl rfl ?_
    refine xo_callS rfl cl49 (vs := [_]) rfl (least_spec ⟨num2, off2⟩ _ hg) ?_
    refine xo_nil ⟨⟨_, rfl⟩, List.forall_mem_cons.2 ⟨pvl_none (rl_own (q := 1) tk3 rfl rfl rfl), fun _ hp => (by cases hp)⟩, ?_⟩
    refine xa_env (ρ' := [(20, _), (21, _), (23, _), (22, _), (2, _), (3, _)]) rfl ?_
    refine xa_p (by kernel_rfl) 4 24 [21, 23] rfl rfl rfl rfl rfl rfl rfl (pv_none (rn_leq rfl rfl)) ?_
    refine xa_p (by kernel_rfl) 5 4 [24] rfl rfl rfl rfl rfl rfl rfl (pv_none (rn_assign rfl)) ?_
    refine xa_end (by kernel_rfl) rfl (kseq_normal ?_)
    refine x_ret ?_
    refine ⟨rfl, [_], .cons (.tmp rfl) (.nil), fin_drop (μ' := []) (List.nil_sublist _) (fin_done (ret_tup1 ?_))⟩
    obtain rfl : i = 4 := by omega
    rw [belowF, hoff]
    rfl

theorem formed_spec (l : Lv) : ∀ (z : Int) (m : Mem) (cs : List Value), LvV m l cs → allF l 4 = true → sizeL l ≤ 100000 → 0 ≤ z → z < 16 →
    Scal Try.prog 35 #[.agg cs.toArray, .int .i64 z] m (formF l z).v := by
  induction l using Lv.ind with
  | _ k nn ls ih =>
    intro z m cs hl hall hsz hz0 hz1
    refine scal_of ?_
    obtain ⟨_, _, _, a, cap, ⟨rfl, rfl, rfl⟩, rfl, hk, hn, hlen, hat⟩ := hl.open
    refine spec_body (vs := [_, _]) Try.func35 rfl Try.ntmps35 rfl (fun E => ?_)
    refine x_seq ?_
    refine x_region ?_
    refine xo_box rfl rfl (cs := [_, _, _]) rfl (fun b2 => ?_)
    refine xo_alloc rfl tz48 (cs := [_, _, _, _, _]) rfl (fun b4 => ?_)
    refine xo_nil (kseq_normal ?_)
    refine x_seq ?_
    refine x_seq ?_
    refine x_region ?_
    refine xo_rn rfl (rn_fieldAddr tf24_0 rfl) ?_
    refine xo_rl rfl (rl_own (q := 1) tk3 rfl rfl rfl) ?_
    refine xo_nil (kseq_normal ?_)
    refine x_block ?_
    refine x_seq ?_
    refine x_region ?_
    refine xo_rn rfl (rn_eql rfl rfl) ?_
    refine xo_rn rfl (rn_assign rfl) ?_
    refine xo_nil (kseq_normal ?_)
    refine x_cond rfl (fun hc9 => ?_) (fun hc9 => ?_)
    · have hc9b := hc9
      try rw [Bool.not_eq_true'] at hc9
      try rw [Bool.not_eq_false'] at hc9
      try rw [decide_eq_true_eq] at hc9
      try rw [decide_eq_false_iff_not] at hc9
      try rw [Int.not_lt] at hc9
      try rw [Int.not_le] at hc9
      refine x_seq ?_
      refine x_region ?_
      refine xo_rn rfl (rn_fieldAddr tf24_1 rfl) ?_
      refine xo_rl rfl (rl_own (q := 1) tk3 rfl rfl rfl) ?_
      refine xo_callS rfl cl45 (vs := [_]) rfl (constant_spec _ _) ?_
      refine xo_store (q := 0) (vs := [_, _, _, _, _]) (cs' := [_, _, _, _, _]) (μ' := [_, _]) tk48 rfl rfl rfl rfl rfl rfl rfl rfl rfl ?_
      refine xo_nil (kseq_normal ?_)
      refine x_ret (kblock_ret (kseq_ret ?_))
      refine ⟨rfl, [_], .cons (.cell (q := 0) (v := .agg #[_, _, _, _, _]) rfl rfl tk48 rfl) (.nil), fin_drop (μ' := []) (List.nil_sublist _) (fin_done (ret_tup1 ?_))⟩
      simp only [formF, formNode, hc9, if_true]
      rfl
    · have hc9b := hc9
      try rw [Bool.not_eq_true'] at hc9
      try rw [Bool.not_eq_false'] at hc9
      try rw [decide_eq_true_eq] at hc9
      try rw [decide_eq_false_iff_not] at hc9
      try rw [Int.not_lt] at hc9
      try rw [Int.not_le] at hc9
      refine x_seq ?_
      refine x_region ?_
      refine xo_rn rfl (rn_eql rfl rfl) ?_
      refine xo_rn rfl (rn_assign rfl) ?_
      refine xo_nil (kseq_normal ?_)
      refine x_cond rfl (fun hc14 => ?_) (fun hc14 => ?_)
      · have hc14b := hc14
        try rw [Bool.not_eq_true'] at hc14
        try rw [Bool.not_eq_false'] at hc14
        try rw [decide_eq_true_eq] at hc14
        try rw [decide_eq_false_iff_not] at hc14
        try rw [Int.not_lt] at hc14
        try rw [Int.not_le] at hc14
        refine x_seq ?_
        refine x_region ?_
        refine xo_callS rfl cl45 (vs := [_]) rfl (constant_spec 0 _) ?_
        refine xo_alloc rfl tz48 (cs := [_, _, _, _, _]) rfl (fun b5 => ?_)
        refine xo_store (q := 0) (vs := [_, _, _, _, _]) (cs' := [_, _, _, _, _]) (μ' := [_, _, _]) tk48 rfl rfl rfl rfl rfl rfl rfl rfl rfl ?_
        refine xo_nil (kseq_normal ?_)
        refine x_seq ?_
        refine x_seq ?_
        refine x_region ?_
        refine xo_rn rfl (rn_move rfl) ?_
        refine xo_rn rfl (rn_fieldAddr tf24_1 rfl) ?_
        refine xo_rl rfl (rl_own (q := 2) tk3 rfl rfl rfl) ?_
        obtain ⟨h0, h4⟩ := all_param hall hc14
        refine xo_rn rfl (rn_shr (q := nn.toNat) rfl rfl (by omega) (by omega)) ?_
        refine xo_rn rfl (rn_and1 rfl rfl (shr_ge hz0) (shr_lt hz0 hz1)) ?_
        refine xo_rn rfl (rn_eql rfl rfl) ?_
        refine xo_nil (kseq_normal ?_)
        refine x_cond rfl (fun hc22 => ?_) (fun hc22 => ?_)
        · have hc22b := hc22
          try rw [Bool.not_eq_true'] at hc22
          try rw [Bool.not_eq_false'] at hc22
          try rw [decide_eq_true_eq] at hc22
          try rw [decide_eq_false_iff_not] at hc22
          try rw [Int.not_lt] at hc22
          try rw [Int.not_le] at hc22
          refine x_env (ρ' := [(1, _), (2, _), (4, _), (5, _)]) ⟨rfl, rfl, rfl, rfl, trivial⟩ ?_
          refine x_region_draw (by kernel_rfl) ?_
          refine xa_p (by kernel_rfl) 0 23 [2] rfl rfl rfl rfl rfl rfl rfl (pv_none (rn_fieldAddr tf24_1 rfl)) ?_
          refine xa_l (by kernel_rfl) 1 24 [23] rfl rfl rfl rfl rfl rfl rfl (pvl_none (rl_own (q := 2) tk3 rfl rfl rfl)) ?_
          refine xa_p (by kernel_rfl) 2 25 [5] rfl rfl rfl rfl rfl rfl rfl (pv_none (rn_fieldAddr tf48_0 rfl)) ?_
          refine xa_p (by kernel_rfl) 4 26 [5] rfl rfl rfl rfl rfl rfl rfl (pv_none (rn_fieldAddr tf48_1 rfl)) ?_
          refine xa_effect (by kernel_rfl) 3 rfl rfl (by kernel_rfl) [2] (by kernel_rfl) rfl (pp' := [_, _]) (pl' := [_]) (hid := [26, 23, 24]) rfl rfl rfl ?_
          refine xo_store (q := 0) (vs := [_]) (cs' := [_, _, _, _, _]) (μ' := [_, _, _]) tk3 rfl rfl rfl rfl rfl rfl rfl rfl rfl ?_
          refine xo_nil ⟨⟨undef, rfl⟩, List.forall_mem_cons.2 ⟨pvl_none (rl_own (q := 2) tk3 rfl rfl rfl), fun _ hp => (by cases hp)⟩, ?_⟩
          refine xa_env (ρ' := [(26, _), (23, _), (24, _), (25, _), (1, _), (2, _), (4, _), (5, _)]) rfl ?_
          refine xa_p (by kernel_rfl) 5 27 [26, 24] rfl rfl rfl rfl rfl rfl rfl (pv_none (rn_indexAddr_arr (q := nn.toNat) tar44 rfl rfl (by omega) (by omega))) ?_
          refine xa_effect (by kernel_rfl) 6 rfl rfl (by kernel_rfl) [5, 3, 0, 1, 2, 4] (by kernel_rfl) rfl (pp' := []) (pl' := []) (hid := []) rfl rfl rfl ?_
          refine xo_store (q := 0) (vs := [_]) (cs' := [.int .i64 (-1), .int .i64 (if ((0 : Nat) : Int) = nn then 0 else -1), .int .i64 (if ((1 : Nat) : Int) = nn then 0 else -1), .int .i64 (if ((2 : Nat) : Int) = nn then 0 else -1), .int .i64 (if ((3 : Nat) : Int) = nn then 0 else -1)]) (μ' := [_, _, _]) tk3 rfl rfl rfl rfl rfl rfl (by simp; omega) (param_upd h0 h4) rfl ?_
          refine xo_nil ⟨⟨undef, rfl⟩, fun _ hp => (by cases hp), ?_⟩
          refine xa_env (ρ' := [(27, _), (26, _), (23, _), (24, _), (25, _), (1, _), (2, _), (4, _), (5, _)]) rfl ?_
          refine xa_end (by kernel_rfl) rfl (kseq_normal ?_)
          refine x_seq ?_
          refine x_region ?_
          refine xo_rl rfl (rl_own (q := 0) (v := .agg #[_, _, _, _, _]) tk48 rfl rfl rfl) ?_
          refine xo_store (q := 1) (vs := [_, _, _, _, _]) (cs' := [_, _, _, _, _]) (μ' := [_, _, _]) tk48 rfl rfl rfl rfl rfl rfl rfl rfl rfl ?_
          refine xo_nil (kseq_normal ?_)
          refine x_ret (kblock_ret (kseq_ret ?_))
          refine ⟨rfl, [_], .cons (.cell (q := 1) (v := .agg #[_, _, _, _, _]) rfl rfl tk48 rfl) (.nil), fin_drop (μ' := []) (List.nil_sublist _) (fin_done (ret_tup1 ?_))⟩
          have e : formF (.mk k nn ls) z = paramF z nn := by subst hc14; simp [formF, formNode]
          have e2 : paramF z nn = ⟨-1, fun j => if (j : Int) = nn then 0 else -1⟩ := by unfold paramF bit; rw [if_pos hc22]
          rw [e, e2]
          rfl
        · have hc22b := hc22
          try rw [Bool.not_eq_true'] at hc22
          try rw [Bool.not_eq_false'] at hc22
          try rw [decide_eq_true_eq] at hc22
          try rw [decide_eq_false_iff_not] at hc22
          try rw [Int.not_lt] at hc22
          try rw [Int.not_le] at hc22
          refine x_skip (kseq_normal ?_)
          refine x_seq ?_
          refine x_region ?_
          refine xo_rl rfl (rl_own (q := 0) (v := .agg #[_, _, _, _, _]) tk48 rfl rfl rfl) ?_
          refine xo_store (q := 1) (vs := [_, _, _, _, _]) (cs' := [_, _, _, _, _]) (μ' := [_, _, _]) tk48 rfl rfl rfl rfl rfl rfl rfl rfl rfl ?_
          refine xo_nil (kseq_normal ?_)
          refine x_ret (kblock_ret (kseq_ret ?_))
          refine ⟨rfl, [_], .cons (.cell (q := 1) (v := .agg #[_, _, _, _, _]) rfl rfl tk48 rfl) (.nil), fin_drop (μ' := []) (List.nil_sublist _) (fin_done (ret_tup1 ?_))⟩
          have e : formF (.mk k nn ls) z = paramF z nn := by subst hc14; simp [formF, formNode]
          have e2 : paramF z nn = constF 0 := by unfold paramF bit; rw [if_neg hc22]
          rw [e, e2]
          rfl
      · have hc14b := hc14
        try rw [Bool.not_eq_true'] at hc14
        try rw [Bool.not_eq_false'] at hc14
        try rw [decide_eq_true_eq] at hc14
        try rw [decide_eq_false_iff_not] at hc14
        try rw [Int.not_lt] at hc14
        try rw [Int.not_le] at hc14
        refine x_seq ?_
        refine x_region ?_
        refine xo_rn rfl (rn_eql rfl rfl) ?_
        refine xo_rn rfl (rn_assign rfl) ?_
        refine xo_nil (kseq_normal ?_)
        refine x_cond rfl (fun hc29 => ?_) (fun hc29 => ?_)
        · have hc29b := hc29
          try rw [Bool.not_eq_true'] at hc29
          try rw [Bool.not_eq_false'] at hc29
          try rw [decide_eq_true_eq] at hc29
          try rw [decide_eq_false_iff_not] at hc29
          try rw [Int.not_lt] at hc29
          try rw [Int.not_le] at hc29
          refine x_seq ?_
          refine x_region ?_
          refine xo_rn rfl (rn_fieldAddr tf24_2 rfl) ?_
          refine xo_rl rfl (rl_own (q := 1) tk22 rfl rfl rfl) ?_
          obtain ⟨x, rfl⟩ := all_succ hall hc29
          obtain ⟨b, off, k1, n1, l1, a1, cap1, rfl, rfl, hrd, hlv⟩ := hat 0 x rfl
          have hlt : 0 < [Lv.mk k1 n1 l1].length := by simp
          have hax := all_arg hall (i := 0) rfl
          have hsx := size_arg hsz (i := 0) rfl
          refine xo_rn rfl (rn_indexAddr (q := 0) tsl22 rfl rfl rfl hlt) ?_
          refine xo_rl rfl (rl_memN tk24 rfl (hrd) rfl) ?_
          refine xo_rn rfl (rn_move rfl) ?_
          refine xo_callS rfl cl35 (vs := [_, _]) rfl (ih _ (by simp) z m _ hlv hax hsx hz0 hz1) ?_
          refine xo_callS rfl cl46 (vs := [_]) rfl (raise_spec _ _ (fm_ok (formF_ok _ z hax) hsx)) ?_
          refine xo_store (q := 0) (vs := [_, _, _, _, _]) (cs' := [_, _, _, _, _]) (μ' := [_, _]) tk48 rfl rfl rfl rfl rfl rfl rfl rfl rfl ?_
          refine xo_nil (kseq_normal ?_)
          refine x_ret (kblock_ret (kseq_ret ?_))
          refine ⟨rfl, [_], .cons (.cell (q := 0) (v := .agg #[_, _, _, _, _]) rfl rfl tk48 rfl) (.nil), fin_drop (μ' := []) (List.nil_sublist _) (fin_done (ret_tup1 ?_))⟩
          subst hc29
          rw [formF_mk1]
          rfl
        · have hc29b := hc29
          try rw [Bool.not_eq_true'] at hc29
          try rw [Bool.not_eq_false'] at hc29
          try rw [decide_eq_true_eq] at hc29
          try rw [decide_eq_false_iff_not] at hc29
          try rw [Int.not_lt] at hc29
          try rw [Int.not_le] at hc29
          refine x_skip (kblock_normal (kseq_normal ?_))
          refine x_seq ?_
          refine x_region ?_
          refine xo_rn rfl (rn_fieldAddr tf24_2 rfl) ?_
          refine xo_rl rfl (rl_own (q := 1) tk22 rfl rfl rfl) ?_
          obtain ⟨x, y, rfl⟩ := all_two hall hc9 hc14 hc29
          obtain ⟨b, off, k2, n2, l2, a2, cap2, rfl, rfl, hrd2, hlv2⟩ := hat 1 y rfl
          obtain ⟨_, _, k1, n1, l1, a1, cap1, heq, rfl, hrd, hlv⟩ := hat 0 x rfl
          cases heq
          have hlt : 1 < [Lv.mk k1 n1 l1, Lv.mk k2 n2 l2].length := by simp
          have hlt0 : 0 < [Lv.mk k1 n1 l1, Lv.mk k2 n2 l2].length := by simp
          refine xo_rn rfl (rn_indexAddr (q := 1) tsl22 rfl rfl rfl hlt) ?_
          refine xo_rl rfl (rl_memN tk24 rfl (hrd2) rfl) ?_
          refine xo_rn rfl (rn_move rfl) ?_
          refine xo_callS rfl cl35 (vs := [_, _]) rfl (ih _ (by simp) z m _ hlv2 (all_arg hall (i := 1) rfl) (size_arg hsz (i := 1) rfl) hz0 hz1) ?_
          refine xo_alloc rfl tz48 (cs := [_, _, _, _, _]) rfl (fun b6 => ?_)
          refine xo_store (q := 0) (vs := [_, _, _, _, _]) (cs' := [_, _, _, _, _]) (μ' := [_, _, _]) tk48 rfl rfl rfl rfl rfl rfl rfl rfl rfl ?_
          refine xo_nil (kseq_normal ?_)
          refine x_seq ?_
          refine x_seq ?_
          refine x_region ?_
          refine xo_rn rfl (rn_fieldAddr tf24_0 rfl) ?_
          refine xo_rl rfl (rl_own (q := 2) tk3 rfl rfl rfl) ?_
          refine xo_rn rfl (rn_eql rfl rfl) ?_
          refine xo_rn rfl (rn_move rfl) ?_
          refine xo_guard rfl rfl (fun hg47 => ?_) (fun hg47 => ?_) rfl
          · have hg47_p := hg47
            try rw [Bool.not_eq_true'] at hg47_p
            try rw [Bool.not_eq_false'] at hg47_p
            try rw [decide_eq_true_eq] at hg47_p
            try rw [decide_eq_false_iff_not] at hg47_p
            try rw [Int.not_lt] at hg47_p
            try rw [Int.not_le] at hg47_p
            refine xo_rl rfl (rl_own (q := 0) (v := .agg #[_, _, _, _, _]) tk48 rfl rfl rfl) ?_
            refine xo_guard_yes rfl rfl hg47 ?_ rfl
            refine xo_callS rfl cl47 (vs := [_]) rfl (zero_spec _ _) ?_
            refine xo_rn rfl (rn_pick_t rfl hg47 rfl) ?_
            refine xo_nil (kseq_normal ?_)
            refine x_cond rfl (fun hc50 => ?_) (fun hc50 => ?_)
            · have hc50b := hc50
              try rw [Bool.not_eq_true'] at hc50
              try rw [Bool.not_eq_false'] at hc50
              try rw [decide_eq_true_eq] at hc50
              try rw [decide_eq_false_iff_not] at hc50
              try rw [Int.not_lt] at hc50
              try rw [Int.not_le] at hc50
              refine x_seq ?_
              refine x_region ?_
              refine xo_rl rfl (rl_own (q := 0) (v := .agg #[_, _, _, _, _]) tk48 rfl rfl rfl) ?_
              refine xo_store (q := 1) (vs := [_, _, _, _, _]) (cs' := [_, _, _, _, _]) (μ' := [_, _, _]) tk48 rfl rfl rfl rfl rfl rfl rfl rfl rfl ?_
              refine xo_nil (kseq_normal ?_)
              refine x_ret (kseq_ret ?_)
              refine ⟨rfl, [_], .cons (.cell (q := 1) (v := .agg #[_, _, _, _, _]) rfl rfl tk48 rfl) (.nil), fin_drop (μ' := []) (List.nil_sublist _) (fin_done (ret_tup1 ?_))⟩
              rw [formF_mk2 hc9 hc14 hc29, if_pos ⟨hg47_p, hc50⟩]
              rfl
            · have hc50b := hc50
              try rw [Bool.not_eq_true'] at hc50
              try rw [Bool.not_eq_false'] at hc50
              try rw [decide_eq_true_eq] at hc50
              try rw [decide_eq_false_iff_not] at hc50
              try rw [Int.not_lt] at hc50
              try rw [Int.not_le] at hc50
              refine x_skip (kseq_normal ?_)
              refine x_seq ?_
              refine x_env (ρ' := [(1, _), (2, _), (4, _), (6, _)]) ⟨rfl, rfl, rfl, rfl, trivial⟩ ?_
              refine x_region_draw (by kernel_rfl) ?_
              refine xa_p (by kernel_rfl) 0 52 [2] rfl rfl rfl rfl rfl rfl rfl (pv_none (rn_fieldAddr tf24_2 rfl)) ?_
              refine xa_l (by kernel_rfl) 1 53 [52] rfl rfl rfl rfl rfl rfl rfl (pvl_none (rl_own (q := 2) tk22 rfl rfl rfl)) ?_
              refine xa_p (by kernel_rfl) 2 54 [53] rfl rfl rfl rfl rfl rfl rfl (pv_none (rn_indexAddr (q := 0) tsl22 rfl rfl rfl hlt0)) ?_
              refine xa_l (by kernel_rfl) 3 55 [54] rfl rfl rfl rfl rfl rfl rfl (pvl_none (rl_memN tk24 rfl (hrd) rfl)) ?_
              refine xa_p (by kernel_rfl) 4 56 [1] rfl rfl rfl rfl rfl rfl rfl (pv_none (rn_move rfl)) ?_
              refine xa_l (by kernel_rfl) 6 58 [6] rfl rfl rfl rfl rfl rfl rfl (pvl_none (rl_own (q := 0) (v := .agg #[_, _, _, _, _]) tk48 rfl rfl rfl)) ?_
              refine xa_effect (by kernel_rfl) 5 rfl rfl (by kernel_rfl) [3, 4, 2, 1, 0] (by kernel_rfl) rfl (pp' := []) (pl' := [_]) (hid := [58]) rfl rfl rfl ?_
              refine xo_callS rfl cl35 (vs := [_, _]) rfl (ih _ (by simp) z m _ hlv (all_arg hall (i := 0) rfl) (size_arg hsz (i := 0) rfl) hz0 hz1) ?_
              refine xo_nil ⟨⟨_, rfl⟩, List.forall_mem_cons.2 ⟨pvl_none (rl_own (q := 0) (v := .agg #[_, _, _, _, _]) tk48 rfl rfl rfl), fun _ hp => (by cases hp)⟩, ?_⟩
              refine xa_env (ρ' := [(58, _), (57, _), (56, _), (55, _), (54, _), (53, _), (52, _), (1, _), (2, _), (4, _), (6, _)]) rfl ?_
              refine xa_effect (by kernel_rfl) 7 rfl rfl (by kernel_rfl) [5, 6, 3, 4, 2, 1, 0] (by kernel_rfl) rfl (pp' := []) (pl' := []) (hid := []) rfl rfl rfl ?_
              refine xo_callS rfl cl48 (vs := [_, _]) rfl (join_spec _ _ _) ?_
              refine xo_nil ⟨⟨_, rfl⟩, fun _ hp => (by cases hp), ?_⟩
              refine xa_env (ρ' := [(59, _), (58, _), (57, _), (56, _), (55, _), (54, _), (53, _), (52, _), (1, _), (2, _), (4, _), (6, _)]) rfl ?_
              refine xa_effect (by kernel_rfl) 8 rfl rfl (by kernel_rfl) [] (by kernel_rfl) rfl (pp' := []) (pl' := []) (hid := []) rfl rfl rfl ?_
              refine xo_store (q := 1) (vs := [_, _, _, _, _]) (cs' := [_, _, _, _, _]) (μ' := [_, _, _]) tk48 rfl rfl rfl rfl rfl rfl rfl rfl rfl ?_
              refine xo_nil ⟨⟨undef, rfl⟩, fun _ hp => (by cases hp), ?_⟩
              refine xa_env (ρ' := [(59, _), (58, _), (57, _), (56, _), (55, _), (54, _), (53, _), (52, _), (1, _), (2, _), (4, _), (6, _)]) rfl ?_
              refine xa_end (by kernel_rfl) rfl (kseq_normal ?_)
              refine x_ret ?_
              refine ⟨rfl, [_], .cons (.cell (q := 1) (v := .agg #[_, _, _, _, _]) rfl rfl tk48 rfl) (.nil), fin_drop (μ' := []) (List.nil_sublist _) (fin_done (ret_tup1 ?_))⟩
              rw [formF_mk2 hc9 hc14 hc29, if_neg (fun h => by rw [h.2] at hc50; cases hc50)]
              rfl
          · replace hg47 := ne_t hg47
            have hg47_p := hg47
            try rw [Bool.not_eq_true'] at hg47_p
            try rw [Bool.not_eq_false'] at hg47_p
            try rw [decide_eq_true_eq] at hg47_p
            try rw [decide_eq_false_iff_not] at hg47_p
            try rw [Int.not_lt] at hg47_p
            try rw [Int.not_le] at hg47_p
            dsimp only [putU]
            refine xo_guard_no rfl rfl (by rw [hg47]; decide) rfl ?_
            refine xo_rn rfl (rn_pick_f rfl hg47 rfl) ?_
            refine xo_nil (kseq_normal ?_)
            refine x_cond_false rfl ?_
            refine x_skip (kseq_normal ?_)
            refine x_seq ?_
            refine x_env (ρ' := [(1, _), (2, _), (4, _), (6, _)]) ⟨rfl, rfl, rfl, rfl, trivial⟩ ?_
            refine x_region_draw (by kernel_rfl) ?_
            refine xa_p (by kernel_rfl) 0 52 [2] rfl rfl rfl rfl rfl rfl rfl (pv_none (rn_fieldAddr tf24_2 rfl)) ?_
            refine xa_l (by kernel_rfl) 1 53 [52] rfl rfl rfl rfl rfl rfl rfl (pvl_none (rl_own (q := 2) tk22 rfl rfl rfl)) ?_
            refine xa_p (by kernel_rfl) 2 54 [53] rfl rfl rfl rfl rfl rfl rfl (pv_none (rn_indexAddr (q := 0) tsl22 rfl rfl rfl hlt0)) ?_
            refine xa_l (by kernel_rfl) 3 55 [54] rfl rfl rfl rfl rfl rfl rfl (pvl_none (rl_memN tk24 rfl (hrd) rfl)) ?_
            refine xa_p (by kernel_rfl) 4 56 [1] rfl rfl rfl rfl rfl rfl rfl (pv_none (rn_move rfl)) ?_
            refine xa_l (by kernel_rfl) 6 58 [6] rfl rfl rfl rfl rfl rfl rfl (pvl_none (rl_own (q := 0) (v := .agg #[_, _, _, _, _]) tk48 rfl rfl rfl)) ?_
            refine xa_effect (by kernel_rfl) 5 rfl rfl (by kernel_rfl) [3, 4, 2, 1, 0] (by kernel_rfl) rfl (pp' := []) (pl' := [_]) (hid := [58]) rfl rfl rfl ?_
            refine xo_callS rfl cl35 (vs := [_, _]) rfl (ih _ (by simp) z m _ hlv (all_arg hall (i := 0) rfl) (size_arg hsz (i := 0) rfl) hz0 hz1) ?_
            refine xo_nil ⟨⟨_, rfl⟩, List.forall_mem_cons.2 ⟨pvl_none (rl_own (q := 0) (v := .agg #[_, _, _, _, _]) tk48 rfl rfl rfl), fun _ hp => (by cases hp)⟩, ?_⟩
            refine xa_env (ρ' := [(58, _), (57, _), (56, _), (55, _), (54, _), (53, _), (52, _), (1, _), (2, _), (4, _), (6, _)]) rfl ?_
            refine xa_effect (by kernel_rfl) 7 rfl rfl (by kernel_rfl) [5, 6, 3, 4, 2, 1, 0] (by kernel_rfl) rfl (pp' := []) (pl' := []) (hid := []) rfl rfl rfl ?_
            refine xo_callS rfl cl48 (vs := [_, _]) rfl (join_spec _ _ _) ?_
            refine xo_nil ⟨⟨_, rfl⟩, fun _ hp => (by cases hp), ?_⟩
            refine xa_env (ρ' := [(59, _), (58, _), (57, _), (56, _), (55, _), (54, _), (53, _), (52, _), (1, _), (2, _), (4, _), (6, _)]) rfl ?_
            refine xa_effect (by kernel_rfl) 8 rfl rfl (by kernel_rfl) [] (by kernel_rfl) rfl (pp' := []) (pl' := []) (hid := []) rfl rfl rfl ?_
            refine xo_store (q := 1) (vs := [_, _, _, _, _]) (cs' := [_, _, _, _, _]) (μ' := [_, _, _]) tk48 rfl rfl rfl rfl rfl rfl rfl rfl rfl ?_
            refine xo_nil ⟨⟨undef, rfl⟩, fun _ hp => (by cases hp), ?_⟩
            refine xa_env (ρ' := [(59, _), (58, _), (57, _), (56, _), (55, _), (54, _), (53, _), (52, _), (1, _), (2, _), (4, _), (6, _)]) rfl ?_
            refine xa_end (by kernel_rfl) rfl (kseq_normal ?_)
            refine x_ret ?_
            refine ⟨rfl, [_], .cons (.cell (q := 1) (v := .agg #[_, _, _, _, _]) rfl rfl tk48 rfl) (.nil), fin_drop (μ' := []) (List.nil_sublist _) (fin_done (ret_tup1 ?_))⟩
            rw [formF_mk2 hc9 hc14 hc29, if_neg (fun h => hg47_p h.1)]
            rfl

theorem Leq_spec (x y : Lv) (m : Mem) (cs ds : List Value) (hx : LvV m x cs) (hy : LvV m y ds) : Scal Try.prog 17 #[.agg cs.toArray, .agg ds.toArray] m (.bool (leqF x y)) := by
  refine scal_of ?_
  have hx0 := hx
  have hy0 := hy
  obtain ⟨k, nn, ls, a, cap, rfl, rfl, hk, hn, hlen, hat⟩ := hx.open
  obtain ⟨k2, nn2, ls2, a2, cap2, rfl, rfl, hk2, hn2, hlen2, hat2⟩ := hy.open
  refine spec_body (vs := [_, _]) Try.func17 rfl Try.ntmps17 rfl (fun E => ?_)
  refine x_seq ?_
  refine x_region ?_
  refine xo_box rfl rfl (cs := [_, _, _]) rfl (fun b2 => ?_)
  refine xo_box rfl rfl (cs := [_, _, _]) rfl (fun b3 => ?_)
  refine xo_rn rfl (rn_assign rfl) ?_
  refine xo_nil (kseq_normal ?_)
  refine x_seq ?_
  refine x_seq ?_
  refine x_region ?_
  refine xo_rl rfl (rl_own (q := 1) (v := .agg #[_, _, _]) tk24 rfl rfl rfl) ?_
  refine xo_callS rfl cl13 (vs := [_, _]) rfl (Right_spec _ _ _ _ hx0) ?_
  refine xo_rn rfl (rn_not rfl) ?_
  refine xo_rn rfl (rn_move rfl) ?_
  refine xo_guard rfl rfl (fun hg9 => ?_) (fun hg9 => ?_) rfl
  · have hg9_p := hg9
    try rw [Bool.not_eq_true'] at hg9_p
    try rw [Bool.not_eq_false'] at hg9_p
    try rw [decide_eq_true_eq] at hg9_p
    try rw [decide_eq_false_iff_not] at hg9_p
    try rw [Int.not_lt] at hg9_p
    try rw [Int.not_le] at hg9_p
    refine xo_rl rfl (rl_own (q := 0) (v := .agg #[_, _, _]) tk24 rfl rfl rfl) ?_
    refine xo_guard_yes rfl rfl hg9 ?_ rfl
    refine xo_callS rfl cl13 (vs := [_, _]) rfl (Right_spec _ _ _ _ hy0) ?_
    refine xo_guard_yes rfl rfl hg9 ?_ rfl
    refine xo_rn rfl (rn_not rfl) ?_
    refine xo_rn rfl (rn_pick_f rfl hg9 rfl) ?_
    refine xo_nil (kseq_normal ?_)
    refine x_cond rfl (fun hc13 => ?_) (fun hc13 => ?_)
    · have hc13b := hc13
      try rw [Bool.not_eq_true'] at hc13
      try rw [Bool.not_eq_false'] at hc13
      try rw [decide_eq_true_eq] at hc13
      try rw [decide_eq_false_iff_not] at hc13
      try rw [Int.not_lt] at hc13
      try rw [Int.not_le] at hc13
      refine x_seq ?_
      refine x_region ?_
      refine xo_rn rfl (rn_assign rfl) ?_
      refine xo_nil (kseq_normal ?_)
      refine x_ret (kseq_ret ?_)
      refine ⟨rfl, [_], .cons (.tmp rfl) (.nil), fin_drop (μ' := []) (List.nil_sublist _) (fin_done (ret_tup1 ?_))⟩
      simp [leqF, hc13]
    · have hc13b := hc13
      try rw [Bool.not_eq_true'] at hc13
      try rw [Bool.not_eq_false'] at hc13
      try rw [decide_eq_true_eq] at hc13
      try rw [decide_eq_false_iff_not] at hc13
      try rw [Int.not_lt] at hc13
      try rw [Int.not_le] at hc13
      refine x_skip (kseq_normal ?_)
      refine x_seq ?_
      refine x_seq ?_
      refine x_region ?_
      refine xo_rn rfl (rn_move rfl) ?_
      refine xo_nil (kseq_normal ?_)
      refine x_block ?_
      refine x_loop (G := Nat) (fun g => [(14, .int .i64 (g : Int)), (2, .pointer (some ⟨b2, 0, none⟩)), (3, .pointer (some ⟨b3, 0, none⟩))])
        (fun g => [bx b3 24 [.int .i64 k2, .int .i64 nn2, .slice a2 ls2.length cap2], bx b2 24 [.int .i64 k, .int .i64 nn, .slice a ls.length cap]])
        (fun g m' => g ≤ 16 ∧ m' = m ∧ leqTo (.mk k nn ls) (.mk k2 nn2 ls2) g = true) (fun g => 16 - g) 0
        ⟨by omega, rfl, rfl⟩ ⟨rfl, rfl, rfl, trivial⟩ (.refl _) ?_
      rintro i m' ⟨hi, rfl, hto⟩ hle
      refine x_seq ?_
      refine x_region ?_
      refine xo_rn rfl (rn_lss rfl rfl) ?_
      refine xo_nil (kseq_normal ?_)
      refine x_seq ?_
      refine x_cond rfl (fun hc15 => ?_) (fun hc15 => ?_)
      · have hc15b := hc15
        try rw [Bool.not_eq_true'] at hc15
        try rw [Bool.not_eq_false'] at hc15
        try rw [decide_eq_true_eq] at hc15
        try rw [decide_eq_false_iff_not] at hc15
        try rw [Int.not_lt] at hc15
        try rw [Int.not_le] at hc15
        refine x_skip (kseq_normal ?_)
        refine x_seq ?_
        refine x_block ?_
        refine x_seq ?_
        refine x_region ?_
        refine xo_rn rfl (rn_move rfl) ?_
        refine xo_rn rfl (rn_assign rfl) ?_
        refine xo_nil (kseq_normal ?_)
        refine x_seq ?_
        refine x_env (ρ' := [(2, _), (3, _), (5, _), (14, _), (15, _), (16, _)]) ⟨rfl, rfl, rfl, rfl, rfl, rfl, trivial⟩ ?_
        refine x_region_draw (by kernel_rfl) ?_
        refine xa_l (by kernel_rfl) 0 17 [2] rfl rfl rfl rfl rfl rfl rfl (pvl_none (rl_own (q := 1) (v := .agg #[_, _, _]) tk24 rfl rfl rfl)) ?_
        refine xa_p (by kernel_rfl) 1 18 [5] rfl rfl rfl rfl rfl rfl rfl (pv_none (rn_move rfl)) ?_
        refine xa_l (by kernel_rfl) 3 20 [3] rfl rfl rfl rfl rfl rfl rfl (pvl_none (rl_own (q := 0) (v := .agg #[_, _, _]) tk24 rfl rfl rfl)) ?_
        refine xa_p (by kernel_rfl) 4 21 [5] rfl rfl rfl rfl rfl rfl rfl (pv_none (rn_move rfl)) ?_
        refine xa_effect (by kernel_rfl) 2 rfl rfl (by kernel_rfl) [0, 1] (by kernel_rfl) rfl (pp' := [_]) (pl' := [_]) (hid := [21, 20]) rfl rfl rfl ?_
        refine xo_callS rfl cl35 (vs := [_, _]) rfl (formed_spec _ _ _ _ hx0 (right_all hg9_p) (right_size hg9_p) (by omega) (by omega)) ?_
        refine xo_nil ⟨⟨_, rfl⟩, List.forall_mem_cons.2 ⟨pvl_none (rl_own (q := 0) (v := .agg #[_, _, _]) tk24 rfl rfl rfl), fun _ hp => (by cases hp)⟩, ?_⟩
        refine xa_env (ρ' := [(21, _), (20, _), (19, _), (18, _), (17, _), (2, _), (3, _), (5, _), (14, _), (15, _), (16, _)]) rfl ?_
        refine xa_effect (by kernel_rfl) 5 rfl rfl (by kernel_rfl) [3, 4, 2, 0, 1] (by kernel_rfl) rfl (pp' := []) (pl' := []) (hid := []) rfl rfl rfl ?_
        refine xo_callS rfl cl35 (vs := [_, _]) rfl (formed_spec _ _ _ _ hy0 (right_all hc13) (right_size hc13) (by omega) (by omega)) ?_
        refine xo_nil ⟨⟨_, rfl⟩, fun _ hp => (by cases hp), ?_⟩
        refine xa_env (ρ' := [(22, _), (21, _), (20, _), (19, _), (18, _), (17, _), (2, _), (3, _), (5, _), (14, _), (15, _), (16, _)]) rfl ?_
        refine xa_effect (by kernel_rfl) 6 rfl rfl (by kernel_rfl) [] (by kernel_rfl) rfl (pp' := []) (pl' := []) (hid := []) rfl rfl rfl ?_
        refine xo_callS rfl cl36 (vs := [_, _]) rfl (below_spec _ _ _ (fm_ok (formF_ok _ i (right_all hc13)) (right_size hc13))) ?_
        refine xo_nil ⟨⟨_, rfl⟩, fun _ hp => (by cases hp), ?_⟩
        refine xa_env (ρ' := [(23, _), (22, _), (21, _), (20, _), (19, _), (18, _), (17, _), (2, _), (3, _), (5, _), (14, _), (15, _), (16, _)]) rfl ?_
        refine xa_p (by kernel_rfl) 7 24 [23] rfl rfl rfl rfl rfl rfl rfl (pv_none (rn_not rfl)) ?_
        refine xa_end (by kernel_rfl) rfl (kseq_normal ?_)
        refine x_cond rfl (fun hc24 => ?_) (fun hc24 => ?_)
        · have hc24b := hc24
          try rw [Bool.not_eq_true'] at hc24
          try rw [Bool.not_eq_false'] at hc24
          try rw [decide_eq_true_eq] at hc24
          try rw [decide_eq_false_iff_not] at hc24
          try rw [Int.not_lt] at hc24
          try rw [Int.not_le] at hc24
          refine x_seq ?_
          refine x_region ?_
          refine xo_rn rfl (rn_assign rfl) ?_
          refine xo_nil (kseq_normal ?_)
          refine x_ret (kblock_ret (kseq_ret (kloop_ret (kblock_ret (kseq_ret ?_)))))
          refine ⟨rfl, [_], .cons (.tmp rfl) (.nil), fin_drop (μ' := []) (List.nil_sublist _) (fin_done (ret_tup1 ?_))⟩
          rw [leqF, hg9_p, hc13, leqTo_false (i := i) (by omega) hc24]
          rfl
        · have hc24b := hc24
          try rw [Bool.not_eq_true'] at hc24
          try rw [Bool.not_eq_false'] at hc24
          try rw [decide_eq_true_eq] at hc24
          try rw [decide_eq_false_iff_not] at hc24
          try rw [Int.not_lt] at hc24
          try rw [Int.not_le] at hc24
          refine x_skip (kblock_normal (kseq_normal ?_))
          refine x_region ?_
          refine xo_rn rfl (by first | exact rn_addN rfl rfl (by unfold i64; omega) | exact rn_add rfl rfl) ?_
          refine xo_rn rfl (rn_move rfl) ?_
          refine xo_nil (kloop_normal ?_)
          refine ⟨i + 1, by omega, ⟨by omega, rfl, ?_⟩, ⟨rfl, rfl, rfl, trivial⟩, .refl _, rfl, hle⟩
          simp [leqTo, hto, hc24]
      · have hc15b := hc15
        try rw [Bool.not_eq_true'] at hc15
        try rw [Bool.not_eq_false'] at hc15
        try rw [decide_eq_true_eq] at hc15
        try rw [decide_eq_false_iff_not] at hc15
        try rw [Int.not_lt] at hc15
        try rw [Int.not_le] at hc15
        refine x_exit (kseq_exit (kloop_exit (kblock_exit_here (kseq_normal ?_))))
        refine x_seq ?_
        refine x_region ?_
        refine xo_rn rfl (rn_assign rfl) ?_
        refine xo_nil (kseq_normal ?_)
        refine x_ret ?_
        refine ⟨rfl, [_], .cons (.tmp rfl) (.nil), fin_drop (μ' := []) (List.nil_sublist _) (fin_done (ret_tup1 ?_))⟩
        obtain rfl : i = 16 := by omega
        rw [leqF, hg9_p, hc13, hto]
        rfl
  · replace hg9 := ne_f hg9
    have hg9_p := hg9
    try rw [Bool.not_eq_true'] at hg9_p
    try rw [Bool.not_eq_false'] at hg9_p
    try rw [decide_eq_true_eq] at hg9_p
    try rw [decide_eq_false_iff_not] at hg9_p
    try rw [Int.not_lt] at hg9_p
    try rw [Int.not_le] at hg9_p
    dsimp only [putU]
    refine xo_guard_no rfl rfl (by rw [hg9]; decide) rfl ?_
    refine xo_guard_no rfl rfl (by rw [hg9]; decide) rfl ?_
    refine xo_rn rfl (rn_pick_t rfl hg9 rfl) ?_
    refine xo_nil (kseq_normal ?_)
    refine x_cond_true rfl ?_
    refine x_seq ?_
    refine x_region ?_
    refine xo_rn rfl (rn_assign rfl) ?_
    refine xo_nil (kseq_normal ?_)
    refine x_ret (kseq_ret ?_)
    refine ⟨rfl, [_], .cons (.tmp rfl) (.nil), fin_drop (μ' := []) (List.nil_sublist _) (fin_done (ret_tup1 ?_))⟩
    simp [leqF, hg9_p]

theorem Same_spec (x y : Lv) (m : Mem) (cs ds : List Value) (hx : LvV m x cs) (hy : LvV m y ds) : Scal Try.prog 18 #[.agg cs.toArray, .agg ds.toArray] m (.bool (leqF x y && leqF y x)) := by
  refine scal_of ?_
  have hx0 := hx
  have hy0 := hy
  obtain ⟨k, nn, ls, a, cap, rfl, rfl, hk, hn, hlen, hat⟩ := hx.open
  obtain ⟨k2, nn2, ls2, a2, cap2, rfl, rfl, hk2, hn2, hlen2, hat2⟩ := hy.open
  refine spec_body (vs := [_, _]) Try.func18 rfl Try.ntmps18 rfl (fun E => ?_)
  refine x_seq ?_
  refine x_region ?_
  refine xo_box rfl rfl (cs := [_, _, _]) rfl (fun b2 => ?_)
  refine xo_box rfl rfl (cs := [_, _, _]) rfl (fun b3 => ?_)
  refine xo_rn rfl (rn_assign rfl) ?_
  refine xo_nil (kseq_normal ?_)
  refine x_seq ?_
  refine x_region ?_
  refine xo_rl rfl (rl_own (q := 1) (v := .agg #[_, _, _]) tk24 rfl rfl rfl) ?_
  refine xo_rl rfl (rl_own (q := 0) (v := .agg #[_, _, _]) tk24 rfl rfl rfl) ?_
  refine xo_callS rfl cl17 (vs := [_, _]) rfl (Leq_spec _ _ _ _ _ hx0 hy0) ?_
  refine xo_rn rfl (rn_move rfl) ?_
  refine xo_guard rfl rfl (fun hg8 => ?_) (fun hg8 => ?_) rfl
  · have hg8_p := hg8
    try rw [Bool.not_eq_true'] at hg8_p
    try rw [Bool.not_eq_false'] at hg8_p
    try rw [decide_eq_true_eq] at hg8_p
    try rw [decide_eq_false_iff_not] at hg8_p
    try rw [Int.not_lt] at hg8_p
    try rw [Int.not_le] at hg8_p
    refine xo_rl rfl (rl_own (q := 0) (v := .agg #[_, _, _]) tk24 rfl rfl rfl) ?_
    refine xo_guard_yes rfl rfl hg8 ?_ rfl
    refine xo_rl rfl (rl_own (q := 1) (v := .agg #[_, _, _]) tk24 rfl rfl rfl) ?_
    refine xo_guard_yes rfl rfl hg8 ?_ rfl
    refine xo_callS rfl cl17 (vs := [_, _]) rfl (Leq_spec _ _ _ _ _ hy0 hx0) ?_
    refine xo_rn rfl (rn_pick_t rfl hg8 rfl) ?_
    refine xo_rn rfl (rn_assign rfl) ?_
    refine xo_nil (kseq_normal ?_)
    refine x_ret ?_
    refine ⟨rfl, [_], .cons (.tmp rfl) (.nil), fin_drop (μ' := []) (List.nil_sublist _) (fin_done (ret_tup1 ?_))⟩
    rw [hg8]
    rfl
  · replace hg8 := ne_t hg8
    have hg8_p := hg8
    try rw [Bool.not_eq_true'] at hg8_p
    try rw [Bool.not_eq_false'] at hg8_p
    try rw [decide_eq_true_eq] at hg8_p
    try rw [decide_eq_false_iff_not] at hg8_p
    try rw [Int.not_lt] at hg8_p
    try rw [Int.not_le] at hg8_p
    dsimp only [putU]
    refine xo_guard_no rfl rfl (by rw [hg8]; decide) rfl ?_
    refine xo_guard_no rfl rfl (by rw [hg8]; decide) rfl ?_
    refine xo_rn rfl (rn_pick_f rfl hg8 rfl) ?_
    refine xo_rn rfl (rn_assign rfl) ?_
    refine xo_nil (kseq_normal ?_)
    refine x_ret ?_
    refine ⟨rfl, [_], .cons (.tmp rfl) (.nil), fin_drop (μ' := []) (List.nil_sublist _) (fin_done (ret_tup1 ?_))⟩
    rw [hg8]
    rfl

theorem Num_spec (k : Int) (m : Mem) : Scal Try.prog 12 #[.int .i64 k] m (.agg #[.int .i64 1, .int .i64 k, .slice none 0 0]) := by
  refine scal_of ?_
  refine spec_body (vs := [_]) Try.func12 rfl Try.ntmps12 rfl (fun E => ?_)
  refine x_seq ?_
  refine x_region ?_
  refine xo_alloc rfl tz24 (cs := [_, _, _]) rfl (fun b2 => ?_)
  refine xo_nil (kseq_normal ?_)
  refine x_seq ?_
  refine x_region ?_
  refine xo_rn rfl (rn_move rfl) ?_
  refine xo_rn rfl (rn_build (pv := [(_, _), (_, _)]) (zs := [_, _, _]) (cs := [_, _, _]) tpl24 tz24 rfl rfl rfl) ?_
  refine xo_store (q := 0) (vs := [_, _, _]) (cs' := [_, _, _]) (μ' := [_]) tk24 rfl rfl rfl rfl rfl rfl rfl rfl rfl ?_
  refine xo_nil (kseq_normal ?_)
  refine x_ret ?_
  refine ⟨rfl, [_], .cons (.cell (q := 0) (v := .agg #[_, _, _]) rfl rfl tk24 rfl) (.nil), fin_drop (μ' := []) (List.nil_sublist _) (fin_done (ret_tup1 ?_))⟩
  rfl

theorem Param_spec (k : Int) (m : Mem) : Scal Try.prog 29 #[.int .i64 k] m (.agg #[.int .i64 2, .int .i64 k, .slice none 0 0]) := by
  refine scal_of ?_
  refine spec_body (vs := [_]) Try.func29 rfl Try.ntmps29 rfl (fun E => ?_)
  refine x_seq ?_
  refine x_region ?_
  refine xo_alloc rfl tz24 (cs := [_, _, _]) rfl (fun b2 => ?_)
  refine xo_nil (kseq_normal ?_)
  refine x_seq ?_
  refine x_region ?_
  refine xo_rn rfl (rn_move rfl) ?_
  refine xo_rn rfl (rn_build (pv := [(_, _), (_, _)]) (zs := [_, _, _]) (cs := [_, _, _]) tpl24 tz24 rfl rfl rfl) ?_
  refine xo_store (q := 0) (vs := [_, _, _]) (cs' := [_, _, _]) (μ' := [_]) tk24 rfl rfl rfl rfl rfl rfl rfl rfl rfl ?_
  refine xo_nil (kseq_normal ?_)
  refine x_ret ?_
  refine ⟨rfl, [_], .cons (.cell (q := 0) (v := .agg #[_, _, _]) rfl rfl tk24 rfl) (.nil), fin_drop (μ' := []) (List.nil_sublist _) (fin_done (ret_tup1 ?_))⟩
  rfl

theorem Zero_spec (x : Lv) (m : Mem) (cs : List Value) (hx : LvV m x cs) : Scal Try.prog 19 #[.agg cs.toArray] m (.bool (leqF x (.mk 1 0 []))) := by
  refine scal_of ?_
  have hx0 := hx
  obtain ⟨k, nn, ls, a, cap, rfl, rfl, hk, hn, hlen, hat⟩ := hx.open
  refine spec_body (vs := [_]) Try.func19 rfl Try.ntmps19 rfl (fun E => ?_)
  refine x_seq ?_
  refine x_region ?_
  refine xo_box rfl rfl (cs := [_, _, _]) rfl (fun b1 => ?_)
  refine xo_rn rfl (rn_assign rfl) ?_
  refine xo_nil (kseq_normal ?_)
  refine x_seq ?_
  refine x_env (ρ' := [(1, _), (2, _)]) ⟨rfl, rfl, trivial⟩ ?_
  refine x_region_draw (by kernel_rfl) ?_
  refine xa_l (by kernel_rfl) 0 3 [1] rfl rfl rfl rfl rfl rfl rfl (pvl_none (rl_own (q := 0) (v := .agg #[_, _, _]) tk24 rfl rfl rfl)) ?_
  refine xa_effect (by kernel_rfl) 1 rfl rfl (by kernel_rfl) [] (by kernel_rfl) rfl (pp' := []) (pl' := [_]) (hid := [3]) rfl rfl rfl ?_
  refine xo_callS rfl cl12 (vs := [_]) rfl (Num_spec _ _) ?_
  refine xo_nil ⟨⟨_, rfl⟩, List.forall_mem_cons.2 ⟨pvl_none (rl_own (q := 0) (v := .agg #[_, _, _]) tk24 rfl rfl rfl), fun _ hp => (by cases hp)⟩, ?_⟩
  refine xa_env (ρ' := [(3, _), (4, _), (1, _), (2, _)]) rfl ?_
  refine xa_effect (by kernel_rfl) 2 rfl rfl (by kernel_rfl) [0, 1] (by kernel_rfl) rfl (pp' := []) (pl' := []) (hid := []) rfl rfl rfl ?_
  refine xo_callS rfl cl17 (vs := [_, _]) rfl (Leq_spec _ _ _ _ _ hx0 (LvV.leaf 1 0 (by unfold i64; omega) (by unfold i64; omega))) ?_
  refine xo_nil ⟨⟨_, rfl⟩, fun _ hp => (by cases hp), ?_⟩
  refine xa_env (ρ' := [(5, _), (3, _), (4, _), (1, _), (2, _)]) rfl ?_
  refine xa_p (by kernel_rfl) 3 2 [5] rfl rfl rfl rfl rfl rfl rfl (pv_none (rn_assign rfl)) ?_
  refine xa_end (by kernel_rfl) rfl (kseq_normal ?_)
  refine x_ret ?_
  refine ⟨rfl, [_], .cons (.tmp rfl) (.nil), fin_drop (μ' := []) (List.nil_sublist _) (fin_done (ret_tup1 ?_))⟩
  rfl

theorem Never_spec (x : Lv) (m : Mem) (cs : List Value) (hx : LvV m x cs) : Scal Try.prog 20 #[.agg cs.toArray] m (.bool (leqF (.mk 1 1 []) x)) := by
  refine scal_of ?_
  have hx0 := hx
  obtain ⟨k, nn, ls, a, cap, rfl, rfl, hk, hn, hlen, hat⟩ := hx.open
  refine spec_body (vs := [_]) Try.func20 rfl Try.ntmps20 rfl (fun E => ?_)
  refine x_seq ?_
  refine x_region ?_
  refine xo_box rfl rfl (cs := [_, _, _]) rfl (fun b1 => ?_)
  refine xo_rn rfl (rn_assign rfl) ?_
  refine xo_nil (kseq_normal ?_)
  refine x_seq ?_
  refine x_env (ρ' := [(1, _), (2, _)]) ⟨rfl, rfl, trivial⟩ ?_
  refine x_region_draw (by kernel_rfl) ?_
  refine xa_l (by kernel_rfl) 1 4 [1] rfl rfl rfl rfl rfl rfl rfl (pvl_none (rl_own (q := 0) (v := .agg #[_, _, _]) tk24 rfl rfl rfl)) ?_
  refine xa_effect (by kernel_rfl) 0 rfl rfl (by kernel_rfl) [] (by kernel_rfl) rfl (pp' := []) (pl' := [_]) (hid := [4]) rfl rfl rfl ?_
  refine xo_callS rfl cl12 (vs := [_]) rfl (Num_spec _ _) ?_
  refine xo_nil ⟨⟨_, rfl⟩, List.forall_mem_cons.2 ⟨pvl_none (rl_own (q := 0) (v := .agg #[_, _, _]) tk24 rfl rfl rfl), fun _ hp => (by cases hp)⟩, ?_⟩
  refine xa_env (ρ' := [(4, _), (3, _), (1, _), (2, _)]) rfl ?_
  refine xa_effect (by kernel_rfl) 2 rfl rfl (by kernel_rfl) [0, 1] (by kernel_rfl) rfl (pp' := []) (pl' := []) (hid := []) rfl rfl rfl ?_
  refine xo_callS rfl cl17 (vs := [_, _]) rfl (Leq_spec _ _ _ _ _ (LvV.leaf 1 1 (by unfold i64; omega) (by unfold i64; omega)) hx0) ?_
  refine xo_nil ⟨⟨_, rfl⟩, fun _ hp => (by cases hp), ?_⟩
  refine xa_env (ρ' := [(5, _), (4, _), (3, _), (1, _), (2, _)]) rfl ?_
  refine xa_p (by kernel_rfl) 3 2 [5] rfl rfl rfl rfl rfl rfl rfl (pv_none (rn_assign rfl)) ?_
  refine xa_end (by kernel_rfl) rfl (kseq_normal ?_)
  refine x_ret ?_
  refine ⟨rfl, [_], .cons (.tmp rfl) (.nil), fin_drop (μ' := []) (List.nil_sublist _) (fin_done (ret_tup1 ?_))⟩
  rfl

end Go.Proofs.Ytagilgmgacpffaa

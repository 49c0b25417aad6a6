/-
  Contracts of what the laws of layer 3 share: alive and great.
-/
import Derived.Test.YtagilgmgacpffaaLvt
namespace Go.Proofs.Ytagilgmgacpffaa
open Go Go.Gw

theorem Leq_is {x y : Lv} {m : Mem} {cs ds : List Value} {r : Bool} (hx : LvV m x cs) (hy : LvV m y ds) (h : leqF x y = r) : Scal Try.prog 17 #[.agg cs.toArray, .agg ds.toArray] m (.bool r) := h ▸ Leq_spec x y m cs ds hx hy
theorem Right_is {x : Lv} {p : Int} {m : Mem} {cs : List Value} {r : Bool} (hx : LvV m x cs) (h : rightF x p = r) : Scal Try.prog 13 #[.agg cs.toArray, .int .i64 p] m (.bool r) := h ▸ Right_spec x p m cs hx
theorem Value_is {x : Lv} {vs : List Int} {m : Mem} {cs : List Value} {sv : Value} {r : Int} (hx : LvV m x cs) (hs : IntsV m vs sv) (h : valueF x vs = r) : Scal Try.prog 15 #[.agg cs.toArray, sv] m (.int .i64 r) := h ▸ Value_spec x vs m cs sv hx hs
theorem Same_is {x y : Lv} {m : Mem} {cs ds : List Value} {r : Bool} (hx : LvV m x cs) (hy : LvV m y ds) (h : (leqF x y && leqF y x) = r) : Scal Try.prog 18 #[.agg cs.toArray, .agg ds.toArray] m (.bool r) := h ▸ Same_spec x y m cs ds hx hy
theorem Zero_is {x : Lv} {m : Mem} {cs : List Value} {r : Bool} (hx : LvV m x cs) (h : leqF x (.mk 1 0 []) = r) : Scal Try.prog 19 #[.agg cs.toArray] m (.bool r) := h ▸ Zero_spec x m cs hx
theorem Never_is {x : Lv} {m : Mem} {cs : List Value} {r : Bool} (hx : LvV m x cs) (h : leqF (.mk 1 1 []) x = r) : Scal Try.prog 20 #[.agg cs.toArray] m (.bool r) := h ▸ Never_spec x m cs hx
theorem Nodes_is {x : Lv} {m : Mem} {cs : List Value} {r : Int} (hx : LvV m x cs) (h : nodesF x = r) : Scal Try.prog 21 #[.agg cs.toArray] m (.int .i64 r) := h ▸ Nodes_spec x m cs hx

def lvU : Lv := .mk 2 0 []
def lvV : Lv := .mk 2 1 []
def lvI : Lv := .mk 5 0 [.mk 3 0 [lvU], lvV]
def lvM : Lv := .mk 4 0 [.mk 3 0 [lvU], lvV]
def lvX : Lv := .mk 4 0 [.mk 3 0 [.mk 1 3 []], .mk 1 0 []]
theorem alive1 : leqF lvI lvM = true := by decide
theorem alive2 : leqF lvM lvI = false := by decide
theorem alive3 : valueF lvX [] = 4 := by decide
theorem alive4 : valueF lvI [5, 0] = 0 := by decide
theorem alive5 : rightF lvM 2 = true := by decide
theorem alive6 : rightF lvM 1 = false := by decide
theorem alive7 : (leqF (.mk 4 0 [lvU, lvV]) (.mk 4 0 [lvV, lvU]) && leqF (.mk 4 0 [lvV, lvU]) (.mk 4 0 [lvU, lvV])) = true := by decide
theorem alive8 : leqF (.mk 5 0 [lvU, .mk 1 0 []]) (.mk 1 0 []) = true := by decide
theorem alive9 : leqF (.mk 1 1 []) (.mk 3 0 [lvU]) = true := by decide
theorem alive10 : nodesF lvM = 4 := by decide
theorem alive11 : InstF lvM [.mk 1 3 [], .mk 1 0 []] = some lvX := by
  have h1 : rightF lvM 2 = true := by decide
  have h2 : byRight [.mk 1 3 [], .mk 1 0 []] = true := by decide
  have h3 : grownF lvM [.mk 1 3 [], .mk 1 0 []] ≤ 64 := by decide
  have h4 : instF lvM [.mk 1 3 [], .mk 1 0 []] = lvX := by
    simp [lvM, lvX, lvU, lvV, instF, instFs, instNode]
  unfold InstF
  rw [if_pos (show rightF lvM (([Lv.mk 1 3 [], Lv.mk 1 0 []].length : Nat) : Int) = true from h1), if_pos h2, if_pos h3, h4]

set_option maxHeartbeats 4000000 in
theorem alive_spec (m : Mem) : Scal Try.prog 8 #[] m (.bool true) := by
  refine scal_of ?_
  have hu : ∀ m', LvV m' lvU [.int .i64 2, .int .i64 0, .slice none 0 0] := fun _ => LvV.leaf 2 0 (by unfold i64; omega) (by unfold i64; omega)
  have hv : ∀ m', LvV m' lvV [.int .i64 2, .int .i64 1, .slice none 0 0] := fun _ => LvV.leaf 2 1 (by unfold i64; omega) (by unfold i64; omega)
  have h0 : ∀ m', LvV m' (.mk 1 0 []) [.int .i64 1, .int .i64 0, .slice none 0 0] := fun _ => LvV.leaf 1 0 (by unfold i64; omega) (by unfold i64; omega)
  have h3 : ∀ m', LvV m' (.mk 1 3 []) [.int .i64 1, .int .i64 3, .slice none 0 0] := fun _ => LvV.leaf 1 3 (by unfold i64; omega) (by unfold i64; omega)
  refine spec_body (vs := []) Try.func8 rfl Try.ntmps8 rfl (fun E => ?_)
  refine x_seq ?_
  refine x_region ?_
  refine xo_rn rfl (rn_assign rfl) ?_
  refine xo_nil (kseq_normal ?_)
  refine x_seq ?_
  refine x_region ?_
  refine xo_callS rfl cl29 (vs := [_]) rfl (Param_spec _ _) ?_
  refine xo_alloc rfl tz24 (cs := [_, _, _]) rfl (fun b1 => ?_)
  refine xo_store (q := 0) (vs := [_, _, _]) (cs' := [_, _, _]) (μ' := [_]) tk24 rfl rfl rfl rfl rfl rfl rfl rfl rfl ?_
  refine xo_nil (kseq_normal ?_)
  refine x_seq ?_
  refine x_region ?_
  refine xo_callS rfl cl29 (vs := [_]) rfl (Param_spec _ _) ?_
  refine xo_alloc rfl tz24 (cs := [_, _, _]) rfl (fun b2 => ?_)
  refine xo_store (q := 0) (vs := [_, _, _]) (cs' := [_, _, _]) (μ' := [_, _]) tk24 rfl rfl rfl rfl rfl rfl rfl rfl rfl ?_
  refine xo_nil (kseq_normal ?_)
  refine x_seq ?_
  refine x_cut (G := Nat × Option Addr × Nat) (fun g => [(1, .pointer (some ⟨b1, 0, none⟩)), (2, .pointer (some ⟨b2, 0, none⟩)), (3, .pointer (some ⟨g.1, 0, none⟩))])
    (fun g => [bx g.1 24 [.int .i64 5, .int .i64 0, .slice g.2.1 2 g.2.2], bx b2 24 [.int .i64 2, .int .i64 1, .slice none 0 0], bx b1 24 [.int .i64 2, .int .i64 0, .slice none 0 0]])
    (fun g m' => LvV m' lvI [.int .i64 5, .int .i64 0, .slice g.2.1 2 g.2.2]) ?_ ?_
  · refine x_env (ρ' := [(0, _), (1, _), (2, _), (7, _), (8, _)]) ⟨rfl, rfl, rfl, rfl, rfl, trivial⟩ ?_
    refine x_region_draw (by kernel_rfl) ?_
    refine xa_l (by kernel_rfl) 0 9 [1] rfl rfl rfl rfl rfl rfl rfl (pvl_none (rl_own (q := 1) (v := .agg #[_, _, _]) tk24 rfl rfl rfl)) ?_
    refine xa_l (by kernel_rfl) 2 11 [2] rfl rfl rfl rfl rfl rfl rfl (pvl_none (rl_own (q := 0) (v := .agg #[_, _, _]) tk24 rfl rfl rfl)) ?_
    refine xa_effect2 (by kernel_rfl) 1 4 rfl rfl rfl (by kernel_rfl) [0] [] (by kernel_rfl) (by kernel_rfl) rfl (pp' := []) (pl' := [_]) (hid := [11]) rfl rfl rfl (qp' := []) (ql' := [_, _]) (hiq := [11, 9]) rfl rfl rfl ?_ ?_
    · refine xo_call0 rfl cl28 (vs := [_]) rfl (Succ_spec _ _ _ (hu _)) (fun v10 m10 _ hle10 hq10 => ?_)
      obtain ⟨c10, rfl, hs10⟩ := hq10
      have hs10' := hs10
      obtain ⟨k10, n10, l10, a10, cap10, heq10, rfl, -, -, -, -⟩ := hs10'.open
      refine xo_nil ⟨⟨_, rfl⟩, List.forall_mem_cons.2 ⟨pvl_none (rl_own (q := 0) (v := .agg #[_, _, _]) tk24 rfl rfl rfl), fun _ hp => (by cases hp)⟩, ?_⟩
      refine xa_env (ρ' := [(11, _), (10, _), (9, _), (0, _), (1, _), (2, _), (7, _), (8, _)]) rfl ?_
      refine xa_effect2 (by kernel_rfl) 3 4 rfl rfl rfl (by kernel_rfl) [1, 2, 0] [] (by kernel_rfl) (by kernel_rfl) rfl (pp' := []) (pl' := []) (hid := []) rfl rfl rfl (qp' := []) (ql' := [_]) (hiq := [11]) rfl rfl rfl ?_ ?_
      · refine xo_call0 rfl cl27 (vs := [_, _]) rfl (IMax_spec _ _ _ _ _ hs10 (hv _)) (fun v12 m12 _ hle12 hq12 => ?_)
        obtain ⟨c12, rfl, hi⟩ := hq12
        have hi' := hi
        obtain ⟨k12, n12, l12, a12, cap12, heq12, rfl, -, -, -, -⟩ := hi'.open
        refine xo_nil ⟨⟨_, rfl⟩, fun _ hp => (by cases hp), ?_⟩
        refine xa_env (ρ' := [(12, _), (11, _), (10, _), (9, _), (0, _), (1, _), (2, _), (7, _), (8, _)]) rfl ?_
        refine xa_effect (by kernel_rfl) 4 rfl rfl (by kernel_rfl) [] (by kernel_rfl) rfl (pp' := []) (pl' := []) (hid := []) rfl rfl rfl ?_
        refine xo_alloc rfl tz24 (cs := [_, _, _]) rfl (fun b3 => ?_)
        refine xo_nil ⟨⟨_, rfl⟩, fun _ hp => (by cases hp), ?_⟩
        refine xa_env (ρ' := [(3, _), (12, _), (11, _), (10, _), (9, _), (0, _), (1, _), (2, _), (7, _), (8, _)]) rfl ?_
        refine xa_effect (by kernel_rfl) 5 rfl rfl (by kernel_rfl) [] (by kernel_rfl) rfl (pp' := []) (pl' := []) (hid := []) rfl rfl rfl ?_
        refine xo_store (q := 0) (vs := [_, _, _]) (cs' := [_, _, _]) (μ' := [_, _, _]) tk24 rfl rfl rfl rfl rfl rfl rfl rfl rfl ?_
        refine xo_nil ⟨⟨undef, rfl⟩, fun _ hp => (by cases hp), ?_⟩
        refine xa_env (ρ' := [(3, _), (12, _), (11, _), (10, _), (9, _), (0, _), (1, _), (2, _), (7, _), (8, _)]) rfl ?_
        refine xa_end (by kernel_rfl) rfl (kcut_normal ?_)
        cases heq12
        exact ⟨(b3, a12, cap12), hi, ⟨rfl, rfl, rfl, trivial⟩, .cons_cons _ (.cons_cons _ (.cons_cons _ (.refl _))), rfl, hle10.trans hle12⟩
      · refine xo_alloc rfl tz24 (cs := [_, _, _]) rfl (fun b3 => ?_)
        refine xo_nil ⟨⟨_, rfl⟩, List.forall_mem_cons.2 ⟨pvl_none (rl_own (q := 1) (v := .agg #[_, _, _]) tk24 rfl rfl rfl), fun _ hp => (by cases hp)⟩, ?_⟩
        refine xa_env (ρ' := [(11, _), (3, _), (10, _), (9, _), (0, _), (1, _), (2, _), (7, _), (8, _)]) rfl ?_
        refine xa_effect (by kernel_rfl) 3 rfl rfl (by kernel_rfl) [1, 2, 0] (by kernel_rfl) rfl (pp' := []) (pl' := []) (hid := []) rfl rfl rfl ?_
        refine xo_call0 rfl cl27 (vs := [_, _]) rfl (IMax_spec _ _ _ _ _ hs10 (hv _)) (fun v12 m12 _ hle12 hq12 => ?_)
        obtain ⟨c12, rfl, hi⟩ := hq12
        have hi' := hi
        obtain ⟨k12, n12, l12, a12, cap12, heq12, rfl, -, -, -, -⟩ := hi'.open
        refine xo_nil ⟨⟨_, rfl⟩, fun _ hp => (by cases hp), ?_⟩
        refine xa_env (ρ' := [(12, _), (11, _), (3, _), (10, _), (9, _), (0, _), (1, _), (2, _), (7, _), (8, _)]) rfl ?_
        refine xa_effect (by kernel_rfl) 5 rfl rfl (by kernel_rfl) [] (by kernel_rfl) rfl (pp' := []) (pl' := []) (hid := []) rfl rfl rfl ?_
        refine xo_store (q := 0) (vs := [_, _, _]) (cs' := [_, _, _]) (μ' := [_, _, _]) tk24 rfl rfl rfl rfl rfl rfl rfl rfl rfl ?_
        refine xo_nil ⟨⟨undef, rfl⟩, fun _ hp => (by cases hp), ?_⟩
        refine xa_env (ρ' := [(12, _), (11, _), (3, _), (10, _), (9, _), (0, _), (1, _), (2, _), (7, _), (8, _)]) rfl ?_
        refine xa_end (by kernel_rfl) rfl (kcut_normal ?_)
        cases heq12
        exact ⟨(b3, a12, cap12), hi, ⟨rfl, rfl, rfl, trivial⟩, .cons_cons _ (.cons_cons _ (.cons_cons _ (.refl _))), rfl, hle10.trans hle12⟩
    · refine xo_alloc rfl tz24 (cs := [_, _, _]) rfl (fun b3 => ?_)
      refine xo_nil ⟨⟨_, rfl⟩, List.forall_mem_cons.2 ⟨pvl_none (rl_own (q := 1) (v := .agg #[_, _, _]) tk24 rfl rfl rfl),  List.forall_mem_cons.2 ⟨pvl_none (rl_own (q := 2) (v := .agg #[_, _, _]) tk24 rfl rfl rfl), fun _ hp => (by cases hp)⟩⟩, ?_⟩
      refine xa_env (ρ' := [(11, _), (9, _), (3, _), (0, _), (1, _), (2, _), (7, _), (8, _)]) rfl ?_
      refine xa_effect (by kernel_rfl) 1 rfl rfl (by kernel_rfl) [0] (by kernel_rfl) rfl (pp' := []) (pl' := [_]) (hid := [11]) rfl rfl rfl ?_
      refine xo_call0 rfl cl28 (vs := [_]) rfl (Succ_spec _ _ _ (hu _)) (fun v10 m10 _ hle10 hq10 => ?_)
      obtain ⟨c10, rfl, hs10⟩ := hq10
      have hs10' := hs10
      obtain ⟨k10, n10, l10, a10, cap10, heq10, rfl, -, -, -, -⟩ := hs10'.open
      refine xo_nil ⟨⟨_, rfl⟩, List.forall_mem_cons.2 ⟨pvl_none (rl_own (q := 1) (v := .agg #[_, _, _]) tk24 rfl rfl rfl), fun _ hp => (by cases hp)⟩, ?_⟩
      refine xa_env (ρ' := [(11, _), (10, _), (9, _), (3, _), (0, _), (1, _), (2, _), (7, _), (8, _)]) rfl ?_
      refine xa_effect (by kernel_rfl) 3 rfl rfl (by kernel_rfl) [1, 2, 0] (by kernel_rfl) rfl (pp' := []) (pl' := []) (hid := []) rfl rfl rfl ?_
      refine xo_call0 rfl cl27 (vs := [_, _]) rfl (IMax_spec _ _ _ _ _ hs10 (hv _)) (fun v12 m12 _ hle12 hq12 => ?_)
      obtain ⟨c12, rfl, hi⟩ := hq12
      have hi' := hi
      obtain ⟨k12, n12, l12, a12, cap12, heq12, rfl, -, -, -, -⟩ := hi'.open
      refine xo_nil ⟨⟨_, rfl⟩, fun _ hp => (by cases hp), ?_⟩
      refine xa_env (ρ' := [(12, _), (11, _), (10, _), (9, _), (3, _), (0, _), (1, _), (2, _), (7, _), (8, _)]) rfl ?_
      refine xa_effect (by kernel_rfl) 5 rfl rfl (by kernel_rfl) [] (by kernel_rfl) rfl (pp' := []) (pl' := []) (hid := []) rfl rfl rfl ?_
      refine xo_store (q := 0) (vs := [_, _, _]) (cs' := [_, _, _]) (μ' := [_, _, _]) tk24 rfl rfl rfl rfl rfl rfl rfl rfl rfl ?_
      refine xo_nil ⟨⟨undef, rfl⟩, fun _ hp => (by cases hp), ?_⟩
      refine xa_env (ρ' := [(12, _), (11, _), (10, _), (9, _), (3, _), (0, _), (1, _), (2, _), (7, _), (8, _)]) rfl ?_
      refine xa_end (by kernel_rfl) rfl (kcut_normal ?_)
      cases heq12
      exact ⟨(b3, a12, cap12), hi, ⟨rfl, rfl, rfl, trivial⟩, .cons_cons _ (.cons_cons _ (.cons_cons _ (.refl _))), rfl, hle10.trans hle12⟩
  · rintro ⟨b3, a12, cap12⟩ mi hi hlei
    dsimp only at hi ⊢
    refine kseq_normal ?_
    refine x_seq ?_
    refine x_cut (G := Nat × Option Addr × Nat) (fun g => [(1, .pointer (some ⟨b1, 0, none⟩)), (2, .pointer (some ⟨b2, 0, none⟩)), (3, .pointer (some ⟨b3, 0, none⟩)), (4, .pointer (some ⟨g.1, 0, none⟩))])
      (fun g => [bx g.1 24 [.int .i64 4, .int .i64 0, .slice g.2.1 2 g.2.2], bx b3 24 [.int .i64 5, .int .i64 0, .slice a12 2 cap12], bx b2 24 [.int .i64 2, .int .i64 1, .slice none 0 0], bx b1 24 [.int .i64 2, .int .i64 0, .slice none 0 0]])
      (fun g m' => LvV m' lvM [.int .i64 4, .int .i64 0, .slice g.2.1 2 g.2.2]) ?_ ?_
    · refine x_env (ρ' := [(1, _), (2, _), (3, _)]) ⟨rfl, rfl, rfl, trivial⟩ ?_
      refine x_region_draw (by kernel_rfl) ?_
      refine xa_l (by kernel_rfl) 0 13 [1] rfl rfl rfl rfl rfl rfl rfl (pvl_none (rl_own (q := 2) (v := .agg #[_, _, _]) tk24 rfl rfl rfl)) ?_
      refine xa_l (by kernel_rfl) 2 15 [2] rfl rfl rfl rfl rfl rfl rfl (pvl_none (rl_own (q := 1) (v := .agg #[_, _, _]) tk24 rfl rfl rfl)) ?_
      refine xa_effect2 (by kernel_rfl) 1 5 rfl rfl rfl (by kernel_rfl) [0] [] (by kernel_rfl) (by kernel_rfl) rfl (pp' := []) (pl' := [_]) (hid := [15]) rfl rfl rfl (qp' := []) (ql' := [_, _]) (hiq := [15, 13]) rfl rfl rfl ?_ ?_
      · refine xo_call0 rfl cl28 (vs := [_]) rfl (Succ_spec _ _ _ (hu _)) (fun v14 m14 _ hle14 hq14 => ?_)
        obtain ⟨c14, rfl, hs14⟩ := hq14
        have hs14' := hs14
        obtain ⟨k14, n14, l14, a14, cap14, heq14, rfl, -, -, -, -⟩ := hs14'.open
        refine xo_nil ⟨⟨_, rfl⟩, List.forall_mem_cons.2 ⟨pvl_none (rl_own (q := 1) (v := .agg #[_, _, _]) tk24 rfl rfl rfl), fun _ hp => (by cases hp)⟩, ?_⟩
        refine xa_env (ρ' := [(15, _), (14, _), (13, _), (1, _), (2, _), (3, _)]) rfl ?_
        refine xa_effect2 (by kernel_rfl) 3 5 rfl rfl rfl (by kernel_rfl) [1, 2, 0] [] (by kernel_rfl) (by kernel_rfl) rfl (pp' := []) (pl' := []) (hid := []) rfl rfl rfl (qp' := []) (ql' := [_]) (hiq := [15]) rfl rfl rfl ?_ ?_
        · refine xo_buildSlice (pv := [(_, _), (_, _)]) (zs := [_, _, _, _, _, _]) (cs := [_, _, _, _, _, _]) rfl tsl22 tz24 rfl rfl rfl rfl (fun b16 => ?_)
          refine xo_nil ⟨⟨_, rfl⟩, fun _ hp => (by cases hp), ?_⟩
          refine xa_env (ρ' := [(16, _), (15, _), (14, _), (13, _), (1, _), (2, _), (3, _)]) rfl ?_
          refine xa_effect2 (by kernel_rfl) 4 5 rfl rfl rfl (by kernel_rfl) [] [] (by kernel_rfl) (by kernel_rfl) rfl (pp' := []) (pl' := []) (hid := []) rfl rfl rfl (qp' := []) (ql' := []) (hiq := []) rfl rfl rfl ?_ ?_
          · refine xo_freezeBlk (q := 0) rfl (fun m_b16 hle_b16 hm_b16 => ?_)
            dsimp only [List.eraseIdx]
            refine xo_call0 rfl cl26 (vs := [_]) rfl (Max_spec _ _ _ (LvsS.of2 hm_b16 (hs14.mono hle_b16) (hv _))) (fun v17 m17 _ hle17 hq17 => ?_)
            obtain ⟨c17, rfl, hm⟩ := hq17
            have hm' := hm
            obtain ⟨k17, n17, l17, a17, cap17, heq17, rfl, -, -, -, -⟩ := hm'.open
            refine xo_nil ⟨⟨_, rfl⟩, fun _ hp => (by cases hp), ?_⟩
            refine xa_env (ρ' := [(17, _), (16, _), (15, _), (14, _), (13, _), (1, _), (2, _), (3, _)]) rfl ?_
            refine xa_effect (by kernel_rfl) 5 rfl rfl (by kernel_rfl) [] (by kernel_rfl) rfl (pp' := []) (pl' := []) (hid := []) rfl rfl rfl ?_
            refine xo_alloc rfl tz24 (cs := [_, _, _]) rfl (fun b4 => ?_)
            refine xo_nil ⟨⟨_, rfl⟩, fun _ hp => (by cases hp), ?_⟩
            refine xa_env (ρ' := [(4, _), (17, _), (16, _), (15, _), (14, _), (13, _), (1, _), (2, _), (3, _)]) rfl ?_
            refine xa_effect (by kernel_rfl) 6 rfl rfl (by kernel_rfl) [] (by kernel_rfl) rfl (pp' := []) (pl' := []) (hid := []) rfl rfl rfl ?_
            refine xo_store (q := 0) (vs := [_, _, _]) (cs' := [_, _, _]) (μ' := [_, _, _, _]) tk24 rfl rfl rfl rfl rfl rfl rfl rfl rfl ?_
            refine xo_nil ⟨⟨undef, rfl⟩, fun _ hp => (by cases hp), ?_⟩
            refine xa_env (ρ' := [(4, _), (17, _), (16, _), (15, _), (14, _), (13, _), (1, _), (2, _), (3, _)]) rfl ?_
            refine xa_end (by kernel_rfl) rfl (kcut_normal ?_)
            cases heq17
            exact ⟨(b4, a17, cap17), hm, ⟨rfl, rfl, rfl, rfl, trivial⟩, .cons_cons _ (.cons_cons _ (.cons_cons _ (.cons_cons _ (.refl _)))), rfl, (hle14.trans hle_b16).trans hle17⟩
          · refine xo_alloc rfl tz24 (cs := [_, _, _]) rfl (fun b4 => ?_)
            refine xo_nil ⟨⟨_, rfl⟩, fun _ hp => (by cases hp), ?_⟩
            refine xa_env (ρ' := [(4, _), (16, _), (15, _), (14, _), (13, _), (1, _), (2, _), (3, _)]) rfl ?_
            refine xa_effect (by kernel_rfl) 4 rfl rfl (by kernel_rfl) [] (by kernel_rfl) rfl (pp' := []) (pl' := []) (hid := []) rfl rfl rfl ?_
            refine xo_freezeBlk (q := 1) rfl (fun m_b16 hle_b16 hm_b16 => ?_)
            dsimp only [List.eraseIdx]
            refine xo_call0 rfl cl26 (vs := [_]) rfl (Max_spec _ _ _ (LvsS.of2 hm_b16 (hs14.mono hle_b16) (hv _))) (fun v17 m17 _ hle17 hq17 => ?_)
            obtain ⟨c17, rfl, hm⟩ := hq17
            have hm' := hm
            obtain ⟨k17, n17, l17, a17, cap17, heq17, rfl, -, -, -, -⟩ := hm'.open
            refine xo_nil ⟨⟨_, rfl⟩, fun _ hp => (by cases hp), ?_⟩
            refine xa_env (ρ' := [(17, _), (4, _), (16, _), (15, _), (14, _), (13, _), (1, _), (2, _), (3, _)]) rfl ?_
            refine xa_effect (by kernel_rfl) 6 rfl rfl (by kernel_rfl) [] (by kernel_rfl) rfl (pp' := []) (pl' := []) (hid := []) rfl rfl rfl ?_
            refine xo_store (q := 0) (vs := [_, _, _]) (cs' := [_, _, _]) (μ' := [_, _, _, _]) tk24 rfl rfl rfl rfl rfl rfl rfl rfl rfl ?_
            refine xo_nil ⟨⟨undef, rfl⟩, fun _ hp => (by cases hp), ?_⟩
            refine xa_env (ρ' := [(17, _), (4, _), (16, _), (15, _), (14, _), (13, _), (1, _), (2, _), (3, _)]) rfl ?_
            refine xa_end (by kernel_rfl) rfl (kcut_normal ?_)
            cases heq17
            exact ⟨(b4, a17, cap17), hm, ⟨rfl, rfl, rfl, rfl, trivial⟩, .cons_cons _ (.cons_cons _ (.cons_cons _ (.cons_cons _ (.refl _)))), rfl, (hle14.trans hle_b16).trans hle17⟩
        · refine xo_alloc rfl tz24 (cs := [_, _, _]) rfl (fun b4 => ?_)
          refine xo_nil ⟨⟨_, rfl⟩, List.forall_mem_cons.2 ⟨pvl_none (rl_own (q := 2) (v := .agg #[_, _, _]) tk24 rfl rfl rfl), fun _ hp => (by cases hp)⟩, ?_⟩
          refine xa_env (ρ' := [(15, _), (4, _), (14, _), (13, _), (1, _), (2, _), (3, _)]) rfl ?_
          refine xa_effect (by kernel_rfl) 3 rfl rfl (by kernel_rfl) [1, 2, 0] (by kernel_rfl) rfl (pp' := []) (pl' := []) (hid := []) rfl rfl rfl ?_
          refine xo_buildSlice (pv := [(_, _), (_, _)]) (zs := [_, _, _, _, _, _]) (cs := [_, _, _, _, _, _]) rfl tsl22 tz24 rfl rfl rfl rfl (fun b16 => ?_)
          refine xo_nil ⟨⟨_, rfl⟩, fun _ hp => (by cases hp), ?_⟩
          refine xa_env (ρ' := [(16, _), (15, _), (4, _), (14, _), (13, _), (1, _), (2, _), (3, _)]) rfl ?_
          refine xa_effect (by kernel_rfl) 4 rfl rfl (by kernel_rfl) [] (by kernel_rfl) rfl (pp' := []) (pl' := []) (hid := []) rfl rfl rfl ?_
          refine xo_freezeBlk (q := 0) rfl (fun m_b16 hle_b16 hm_b16 => ?_)
          dsimp only [List.eraseIdx]
          refine xo_call0 rfl cl26 (vs := [_]) rfl (Max_spec _ _ _ (LvsS.of2 hm_b16 (hs14.mono hle_b16) (hv _))) (fun v17 m17 _ hle17 hq17 => ?_)
          obtain ⟨c17, rfl, hm⟩ := hq17
          have hm' := hm
          obtain ⟨k17, n17, l17, a17, cap17, heq17, rfl, -, -, -, -⟩ := hm'.open
          refine xo_nil ⟨⟨_, rfl⟩, fun _ hp => (by cases hp), ?_⟩
          refine xa_env (ρ' := [(17, _), (16, _), (15, _), (4, _), (14, _), (13, _), (1, _), (2, _), (3, _)]) rfl ?_
          refine xa_effect (by kernel_rfl) 6 rfl rfl (by kernel_rfl) [] (by kernel_rfl) rfl (pp' := []) (pl' := []) (hid := []) rfl rfl rfl ?_
          refine xo_store (q := 0) (vs := [_, _, _]) (cs' := [_, _, _]) (μ' := [_, _, _, _]) tk24 rfl rfl rfl rfl rfl rfl rfl rfl rfl ?_
          refine xo_nil ⟨⟨undef, rfl⟩, fun _ hp => (by cases hp), ?_⟩
          refine xa_env (ρ' := [(17, _), (16, _), (15, _), (4, _), (14, _), (13, _), (1, _), (2, _), (3, _)]) rfl ?_
          refine xa_end (by kernel_rfl) rfl (kcut_normal ?_)
          cases heq17
          exact ⟨(b4, a17, cap17), hm, ⟨rfl, rfl, rfl, rfl, trivial⟩, .cons_cons _ (.cons_cons _ (.cons_cons _ (.cons_cons _ (.refl _)))), rfl, (hle14.trans hle_b16).trans hle17⟩
      · refine xo_alloc rfl tz24 (cs := [_, _, _]) rfl (fun b4 => ?_)
        refine xo_nil ⟨⟨_, rfl⟩, List.forall_mem_cons.2 ⟨pvl_none (rl_own (q := 2) (v := .agg #[_, _, _]) tk24 rfl rfl rfl),  List.forall_mem_cons.2 ⟨pvl_none (rl_own (q := 3) (v := .agg #[_, _, _]) tk24 rfl rfl rfl), fun _ hp => (by cases hp)⟩⟩, ?_⟩
        refine xa_env (ρ' := [(15, _), (13, _), (4, _), (1, _), (2, _), (3, _)]) rfl ?_
        refine xa_effect (by kernel_rfl) 1 rfl rfl (by kernel_rfl) [0] (by kernel_rfl) rfl (pp' := []) (pl' := [_]) (hid := [15]) rfl rfl rfl ?_
        refine xo_call0 rfl cl28 (vs := [_]) rfl (Succ_spec _ _ _ (hu _)) (fun v14 m14 _ hle14 hq14 => ?_)
        obtain ⟨c14, rfl, hs14⟩ := hq14
        have hs14' := hs14
        obtain ⟨k14, n14, l14, a14, cap14, heq14, rfl, -, -, -, -⟩ := hs14'.open
        refine xo_nil ⟨⟨_, rfl⟩, List.forall_mem_cons.2 ⟨pvl_none (rl_own (q := 2) (v := .agg #[_, _, _]) tk24 rfl rfl rfl), fun _ hp => (by cases hp)⟩, ?_⟩
        refine xa_env (ρ' := [(15, _), (14, _), (13, _), (4, _), (1, _), (2, _), (3, _)]) rfl ?_
        refine xa_effect (by kernel_rfl) 3 rfl rfl (by kernel_rfl) [1, 2, 0] (by kernel_rfl) rfl (pp' := []) (pl' := []) (hid := []) rfl rfl rfl ?_
        refine xo_buildSlice (pv := [(_, _), (_, _)]) (zs := [_, _, _, _, _, _]) (cs := [_, _, _, _, _, _]) rfl tsl22 tz24 rfl rfl rfl rfl (fun b16 => ?_)
        refine xo_nil ⟨⟨_, rfl⟩, fun _ hp => (by cases hp), ?_⟩
        refine xa_env (ρ' := [(16, _), (15, _), (14, _), (13, _), (4, _), (1, _), (2, _), (3, _)]) rfl ?_
        refine xa_effect (by kernel_rfl) 4 rfl rfl (by kernel_rfl) [] (by kernel_rfl) rfl (pp' := []) (pl' := []) (hid := []) rfl rfl rfl ?_
        refine xo_freezeBlk (q := 0) rfl (fun m_b16 hle_b16 hm_b16 => ?_)
        dsimp only [List.eraseIdx]
        refine xo_call0 rfl cl26 (vs := [_]) rfl (Max_spec _ _ _ (LvsS.of2 hm_b16 (hs14.mono hle_b16) (hv _))) (fun v17 m17 _ hle17 hq17 => ?_)
        obtain ⟨c17, rfl, hm⟩ := hq17
        have hm' := hm
        obtain ⟨k17, n17, l17, a17, cap17, heq17, rfl, -, -, -, -⟩ := hm'.open
        refine xo_nil ⟨⟨_, rfl⟩, fun _ hp => (by cases hp), ?_⟩
        refine xa_env (ρ' := [(17, _), (16, _), (15, _), (14, _), (13, _), (4, _), (1, _), (2, _), (3, _)]) rfl ?_
        refine xa_effect (by kernel_rfl) 6 rfl rfl (by kernel_rfl) [] (by kernel_rfl) rfl (pp' := []) (pl' := []) (hid := []) rfl rfl rfl ?_
        refine xo_store (q := 0) (vs := [_, _, _]) (cs' := [_, _, _]) (μ' := [_, _, _, _]) tk24 rfl rfl rfl rfl rfl rfl rfl rfl rfl ?_
        refine xo_nil ⟨⟨undef, rfl⟩, fun _ hp => (by cases hp), ?_⟩
        refine xa_env (ρ' := [(17, _), (16, _), (15, _), (14, _), (13, _), (4, _), (1, _), (2, _), (3, _)]) rfl ?_
        refine xa_end (by kernel_rfl) rfl (kcut_normal ?_)
        cases heq17
        exact ⟨(b4, a17, cap17), hm, ⟨rfl, rfl, rfl, rfl, trivial⟩, .cons_cons _ (.cons_cons _ (.cons_cons _ (.cons_cons _ (.refl _)))), rfl, (hle14.trans hle_b16).trans hle17⟩
    · rintro ⟨b4, a17, cap17⟩ mm hm hlem
      dsimp only at hm ⊢
      replace hi := hi.mono hlem
      refine kseq_normal ?_
      refine x_seq ?_
      refine x_cut (G := Nat × Option Addr × Nat) (fun g => [(1, .pointer (some ⟨b1, 0, none⟩)), (2, .pointer (some ⟨b2, 0, none⟩)), (3, .pointer (some ⟨b3, 0, none⟩)), (4, .pointer (some ⟨b4, 0, none⟩)), (5, .pointer (some ⟨g.1, 0, none⟩)), (6, .bool true)])
        (fun g => [bx g.1 24 [.int .i64 4, .int .i64 0, .slice g.2.1 2 g.2.2], bx b4 24 [.int .i64 4, .int .i64 0, .slice a17 2 cap17], bx b3 24 [.int .i64 5, .int .i64 0, .slice a12 2 cap12], bx b2 24 [.int .i64 2, .int .i64 1, .slice none 0 0], bx b1 24 [.int .i64 2, .int .i64 0, .slice none 0 0]])
        (fun g m' => LvV m' lvX [.int .i64 4, .int .i64 0, .slice g.2.1 2 g.2.2]) ?_ ?_
      · refine x_env (ρ' := [(1, _), (2, _), (3, _), (4, _)]) ⟨rfl, rfl, rfl, rfl, trivial⟩ ?_
        refine x_region_draw (by kernel_rfl) ?_
        refine xa_l (by kernel_rfl) 0 19 [4] rfl rfl rfl rfl rfl rfl rfl (pvl_none (rl_own (q := 0) (v := .agg #[_, _, _]) tk24 rfl rfl rfl)) ?_
        refine xa_effect2 (by kernel_rfl) 1 8 rfl rfl rfl (by kernel_rfl) [] [] (by kernel_rfl) (by kernel_rfl) rfl (pp' := []) (pl' := [_]) (hid := [19]) rfl rfl rfl (qp' := []) (ql' := [_]) (hiq := [19]) rfl rfl rfl ?_ ?_
        · refine xo_callS rfl cl12 (vs := [_]) rfl (Num_spec _ _) ?_
          refine xo_nil ⟨⟨_, rfl⟩, List.forall_mem_cons.2 ⟨pvl_none (rl_own (q := 0) (v := .agg #[_, _, _]) tk24 rfl rfl rfl), fun _ hp => (by cases hp)⟩, ?_⟩
          refine xa_env (ρ' := [(19, _), (20, _), (1, _), (2, _), (3, _), (4, _)]) rfl ?_
          refine xa_effect2 (by kernel_rfl) 2 8 rfl rfl rfl (by kernel_rfl) [] [] (by kernel_rfl) (by kernel_rfl) rfl (pp' := []) (pl' := [_]) (hid := [19]) rfl rfl rfl (qp' := []) (ql' := [_]) (hiq := [19]) rfl rfl rfl ?_ ?_
          · refine xo_callS rfl cl12 (vs := [_]) rfl (Num_spec _ _) ?_
            refine xo_nil ⟨⟨_, rfl⟩, List.forall_mem_cons.2 ⟨pvl_none (rl_own (q := 0) (v := .agg #[_, _, _]) tk24 rfl rfl rfl), fun _ hp => (by cases hp)⟩, ?_⟩
            refine xa_env (ρ' := [(19, _), (21, _), (20, _), (1, _), (2, _), (3, _), (4, _)]) rfl ?_
            refine xa_effect2 (by kernel_rfl) 3 8 rfl rfl rfl (by kernel_rfl) [] [] (by kernel_rfl) (by kernel_rfl) rfl (pp' := []) (pl' := [_]) (hid := [19]) rfl rfl rfl (qp' := []) (ql' := [_]) (hiq := [19]) rfl rfl rfl ?_ ?_
            · refine xo_buildSlice (pv := [(_, _), (_, _)]) (zs := [_, _, _, _, _, _]) (cs := [_, _, _, _, _, _]) rfl tsl22 tz24 rfl rfl rfl rfl (fun b22 => ?_)
              refine xo_nil ⟨⟨_, rfl⟩, List.forall_mem_cons.2 ⟨pvl_none (rl_own (q := 1) (v := .agg #[_, _, _]) tk24 rfl rfl rfl), fun _ hp => (by cases hp)⟩, ?_⟩
              refine xa_env (ρ' := [(19, _), (22, _), (21, _), (20, _), (1, _), (2, _), (3, _), (4, _)]) rfl ?_
              refine xa_effect2 (by kernel_rfl) 4 8 rfl rfl rfl (by kernel_rfl) [0, 3, 2, 1] [] (by kernel_rfl) (by kernel_rfl) rfl (pp' := []) (pl' := []) (hid := []) rfl rfl rfl (qp' := []) (ql' := [_]) (hiq := [19]) rfl rfl rfl ?_ ?_
              · refine xo_freezeBlk (q := 0) rfl (fun m_b22 hle_b22 hm_b22 => ?_)
                dsimp only [List.eraseIdx]
                refine xo_call0 rfl cl24 (vs := [_, _]) rfl (Inst_spec _ _ _ _ _ (hm.mono hle_b22) (LvsS.of2 hm_b22 (h3 _) (h0 _))) (fun v23 m23 _ hle23 hq23 => ?_)
                replace hq23 : InstOut (InstF lvM [.mk 1 3 [], .mk 1 0 []]) v23 m23 [] := hq23
                rw [alive11] at hq23
                obtain ⟨c23, rfl, hx⟩ := hq23
                have hx' := hx
                obtain ⟨k23, n23, l23, a23, cap23, heq23, rfl, -, -, -, -⟩ := hx'.open
                refine xo_nil ⟨⟨_, rfl⟩, fun _ hp => (by cases hp), ?_⟩
                refine xa_env (ρ' := [(23, _), (19, _), (22, _), (21, _), (20, _), (1, _), (2, _), (3, _), (4, _)]) rfl ?_
                refine xa_p (by kernel_rfl) 5 18 [23] rfl rfl rfl rfl rfl rfl rfl (pv_none (rn_move rfl)) ?_
                refine xa_p (by kernel_rfl) 6 24 [18] rfl rfl rfl rfl rfl rfl rfl (pv_none (rn_extract rfl rfl)) ?_
                refine xa_p (by kernel_rfl) 7 25 [18] rfl rfl rfl rfl rfl rfl rfl (pv_none (rn_extract rfl rfl)) ?_
                refine xa_effect (by kernel_rfl) 8 rfl rfl (by kernel_rfl) [] (by kernel_rfl) rfl (pp' := [_, _, _]) (pl' := []) (hid := [25, 24, 18]) rfl rfl rfl ?_
                refine xo_alloc rfl tz24 (cs := [_, _, _]) rfl (fun b5 => ?_)
                refine xo_nil ⟨⟨_, rfl⟩, fun _ hp => (by cases hp), ?_⟩
                refine xa_env (ρ' := [(25, _), (24, _), (18, _), (5, _), (23, _), (19, _), (22, _), (21, _), (20, _), (1, _), (2, _), (3, _), (4, _)]) rfl ?_
                refine xa_effect (by kernel_rfl) 9 rfl rfl (by kernel_rfl) [8, 6, 4, 0, 1, 2, 3, 5] (by kernel_rfl) rfl (pp' := [_]) (pl' := []) (hid := [25]) rfl rfl rfl ?_
                refine xo_store (q := 0) (vs := [_, _, _]) (cs' := [_, _, _]) (μ' := [_, _, _, _, _]) tk24 rfl rfl rfl rfl rfl rfl rfl rfl rfl ?_
                refine xo_nil ⟨⟨undef, rfl⟩, fun _ hp => (by cases hp), ?_⟩
                refine xa_env (ρ' := [(25, _), (24, _), (18, _), (5, _), (23, _), (19, _), (22, _), (21, _), (20, _), (1, _), (2, _), (3, _), (4, _)]) rfl ?_
                refine xa_p (by kernel_rfl) 10 6 [25] rfl rfl rfl rfl rfl rfl rfl (pv_none (rn_assign rfl)) ?_
                refine xa_end (by kernel_rfl) rfl (kcut_normal ?_)
                cases heq23
                exact ⟨(b5, a23, cap23), hx, ⟨rfl, rfl, rfl, rfl, rfl, rfl, trivial⟩, .cons_cons _ (.cons_cons _ (.cons_cons _ (.cons_cons _ (.cons_cons _ (.refl _))))), rfl, hle_b22.trans hle23⟩
              · refine xo_alloc rfl tz24 (cs := [_, _, _]) rfl (fun b5 => ?_)
                refine xo_nil ⟨⟨_, rfl⟩, List.forall_mem_cons.2 ⟨pvl_none (rl_own (q := 2) (v := .agg #[_, _, _]) tk24 rfl rfl rfl), fun _ hp => (by cases hp)⟩, ?_⟩
                refine xa_env (ρ' := [(19, _), (5, _), (22, _), (21, _), (20, _), (1, _), (2, _), (3, _), (4, _)]) rfl ?_
                refine xa_effect (by kernel_rfl) 4 rfl rfl (by kernel_rfl) [0, 3, 2, 1] (by kernel_rfl) rfl (pp' := []) (pl' := []) (hid := []) rfl rfl rfl ?_
                refine xo_freezeBlk (q := 1) rfl (fun m_b22 hle_b22 hm_b22 => ?_)
                dsimp only [List.eraseIdx]
                refine xo_call0 rfl cl24 (vs := [_, _]) rfl (Inst_spec _ _ _ _ _ (hm.mono hle_b22) (LvsS.of2 hm_b22 (h3 _) (h0 _))) (fun v23 m23 _ hle23 hq23 => ?_)
                replace hq23 : InstOut (InstF lvM [.mk 1 3 [], .mk 1 0 []]) v23 m23 [] := hq23
                rw [alive11] at hq23
                obtain ⟨c23, rfl, hx⟩ := hq23
                have hx' := hx
                obtain ⟨k23, n23, l23, a23, cap23, heq23, rfl, -, -, -, -⟩ := hx'.open
                refine xo_nil ⟨⟨_, rfl⟩, fun _ hp => (by cases hp), ?_⟩
                refine xa_env (ρ' := [(23, _), (19, _), (5, _), (22, _), (21, _), (20, _), (1, _), (2, _), (3, _), (4, _)]) rfl ?_
                refine xa_p (by kernel_rfl) 5 18 [23] rfl rfl rfl rfl rfl rfl rfl (pv_none (rn_move rfl)) ?_
                refine xa_p (by kernel_rfl) 6 24 [18] rfl rfl rfl rfl rfl rfl rfl (pv_none (rn_extract rfl rfl)) ?_
                refine xa_p (by kernel_rfl) 7 25 [18] rfl rfl rfl rfl rfl rfl rfl (pv_none (rn_extract rfl rfl)) ?_
                refine xa_effect (by kernel_rfl) 9 rfl rfl (by kernel_rfl) [8, 6, 4, 0, 1, 2, 3, 5] (by kernel_rfl) rfl (pp' := [_]) (pl' := []) (hid := [25]) rfl rfl rfl ?_
                refine xo_store (q := 0) (vs := [_, _, _]) (cs' := [_, _, _]) (μ' := [_, _, _, _, _]) tk24 rfl rfl rfl rfl rfl rfl rfl rfl rfl ?_
                refine xo_nil ⟨⟨undef, rfl⟩, fun _ hp => (by cases hp), ?_⟩
                refine xa_env (ρ' := [(25, _), (24, _), (18, _), (23, _), (19, _), (5, _), (22, _), (21, _), (20, _), (1, _), (2, _), (3, _), (4, _)]) rfl ?_
                refine xa_p (by kernel_rfl) 10 6 [25] rfl rfl rfl rfl rfl rfl rfl (pv_none (rn_assign rfl)) ?_
                refine xa_end (by kernel_rfl) rfl (kcut_normal ?_)
                cases heq23
                exact ⟨(b5, a23, cap23), hx, ⟨rfl, rfl, rfl, rfl, rfl, rfl, trivial⟩, .cons_cons _ (.cons_cons _ (.cons_cons _ (.cons_cons _ (.cons_cons _ (.refl _))))), rfl, hle_b22.trans hle23⟩
            · refine xo_alloc rfl tz24 (cs := [_, _, _]) rfl (fun b5 => ?_)
              refine xo_nil ⟨⟨_, rfl⟩, List.forall_mem_cons.2 ⟨pvl_none (rl_own (q := 1) (v := .agg #[_, _, _]) tk24 rfl rfl rfl), fun _ hp => (by cases hp)⟩, ?_⟩
              refine xa_env (ρ' := [(19, _), (5, _), (21, _), (20, _), (1, _), (2, _), (3, _), (4, _)]) rfl ?_
              refine xa_effect (by kernel_rfl) 3 rfl rfl (by kernel_rfl) [] (by kernel_rfl) rfl (pp' := []) (pl' := [_]) (hid := [19]) rfl rfl rfl ?_
              refine xo_buildSlice (pv := [(_, _), (_, _)]) (zs := [_, _, _, _, _, _]) (cs := [_, _, _, _, _, _]) rfl tsl22 tz24 rfl rfl rfl rfl (fun b22 => ?_)
              refine xo_nil ⟨⟨_, rfl⟩, List.forall_mem_cons.2 ⟨pvl_none (rl_own (q := 2) (v := .agg #[_, _, _]) tk24 rfl rfl rfl), fun _ hp => (by cases hp)⟩, ?_⟩
              refine xa_env (ρ' := [(19, _), (22, _), (5, _), (21, _), (20, _), (1, _), (2, _), (3, _), (4, _)]) rfl ?_
              refine xa_effect (by kernel_rfl) 4 rfl rfl (by kernel_rfl) [0, 3, 2, 1] (by kernel_rfl) rfl (pp' := []) (pl' := []) (hid := []) rfl rfl rfl ?_
              refine xo_freezeBlk (q := 0) rfl (fun m_b22 hle_b22 hm_b22 => ?_)
              dsimp only [List.eraseIdx]
              refine xo_call0 rfl cl24 (vs := [_, _]) rfl (Inst_spec _ _ _ _ _ (hm.mono hle_b22) (LvsS.of2 hm_b22 (h3 _) (h0 _))) (fun v23 m23 _ hle23 hq23 => ?_)
              replace hq23 : InstOut (InstF lvM [.mk 1 3 [], .mk 1 0 []]) v23 m23 [] := hq23
              rw [alive11] at hq23
              obtain ⟨c23, rfl, hx⟩ := hq23
              have hx' := hx
              obtain ⟨k23, n23, l23, a23, cap23, heq23, rfl, -, -, -, -⟩ := hx'.open
              refine xo_nil ⟨⟨_, rfl⟩, fun _ hp => (by cases hp), ?_⟩
              refine xa_env (ρ' := [(23, _), (19, _), (22, _), (5, _), (21, _), (20, _), (1, _), (2, _), (3, _), (4, _)]) rfl ?_
              refine xa_p (by kernel_rfl) 5 18 [23] rfl rfl rfl rfl rfl rfl rfl (pv_none (rn_move rfl)) ?_
              refine xa_p (by kernel_rfl) 6 24 [18] rfl rfl rfl rfl rfl rfl rfl (pv_none (rn_extract rfl rfl)) ?_
              refine xa_p (by kernel_rfl) 7 25 [18] rfl rfl rfl rfl rfl rfl rfl (pv_none (rn_extract rfl rfl)) ?_
              refine xa_effect (by kernel_rfl) 9 rfl rfl (by kernel_rfl) [8, 6, 4, 0, 1, 2, 3, 5] (by kernel_rfl) rfl (pp' := [_]) (pl' := []) (hid := [25]) rfl rfl rfl ?_
              refine xo_store (q := 0) (vs := [_, _, _]) (cs' := [_, _, _]) (μ' := [_, _, _, _, _]) tk24 rfl rfl rfl rfl rfl rfl rfl rfl rfl ?_
              refine xo_nil ⟨⟨undef, rfl⟩, fun _ hp => (by cases hp), ?_⟩
              refine xa_env (ρ' := [(25, _), (24, _), (18, _), (23, _), (19, _), (22, _), (5, _), (21, _), (20, _), (1, _), (2, _), (3, _), (4, _)]) rfl ?_
              refine xa_p (by kernel_rfl) 10 6 [25] rfl rfl rfl rfl rfl rfl rfl (pv_none (rn_assign rfl)) ?_
              refine xa_end (by kernel_rfl) rfl (kcut_normal ?_)
              cases heq23
              exact ⟨(b5, a23, cap23), hx, ⟨rfl, rfl, rfl, rfl, rfl, rfl, trivial⟩, .cons_cons _ (.cons_cons _ (.cons_cons _ (.cons_cons _ (.cons_cons _ (.refl _))))), rfl, hle_b22.trans hle23⟩
          · refine xo_alloc rfl tz24 (cs := [_, _, _]) rfl (fun b5 => ?_)
            refine xo_nil ⟨⟨_, rfl⟩, List.forall_mem_cons.2 ⟨pvl_none (rl_own (q := 1) (v := .agg #[_, _, _]) tk24 rfl rfl rfl), fun _ hp => (by cases hp)⟩, ?_⟩
            refine xa_env (ρ' := [(19, _), (5, _), (20, _), (1, _), (2, _), (3, _), (4, _)]) rfl ?_
            refine xa_effect (by kernel_rfl) 2 rfl rfl (by kernel_rfl) [] (by kernel_rfl) rfl (pp' := []) (pl' := [_]) (hid := [19]) rfl rfl rfl ?_
            refine xo_callS rfl cl12 (vs := [_]) rfl (Num_spec _ _) ?_
            refine xo_nil ⟨⟨_, rfl⟩, List.forall_mem_cons.2 ⟨pvl_none (rl_own (q := 1) (v := .agg #[_, _, _]) tk24 rfl rfl rfl), fun _ hp => (by cases hp)⟩, ?_⟩
            refine xa_env (ρ' := [(19, _), (21, _), (5, _), (20, _), (1, _), (2, _), (3, _), (4, _)]) rfl ?_
            refine xa_effect (by kernel_rfl) 3 rfl rfl (by kernel_rfl) [] (by kernel_rfl) rfl (pp' := []) (pl' := [_]) (hid := [19]) rfl rfl rfl ?_
            refine xo_buildSlice (pv := [(_, _), (_, _)]) (zs := [_, _, _, _, _, _]) (cs := [_, _, _, _, _, _]) rfl tsl22 tz24 rfl rfl rfl rfl (fun b22 => ?_)
            refine xo_nil ⟨⟨_, rfl⟩, List.forall_mem_cons.2 ⟨pvl_none (rl_own (q := 2) (v := .agg #[_, _, _]) tk24 rfl rfl rfl), fun _ hp => (by cases hp)⟩, ?_⟩
            refine xa_env (ρ' := [(19, _), (22, _), (21, _), (5, _), (20, _), (1, _), (2, _), (3, _), (4, _)]) rfl ?_
            refine xa_effect (by kernel_rfl) 4 rfl rfl (by kernel_rfl) [0, 3, 2, 1] (by kernel_rfl) rfl (pp' := []) (pl' := []) (hid := []) rfl rfl rfl ?_
            refine xo_freezeBlk (q := 0) rfl (fun m_b22 hle_b22 hm_b22 => ?_)
            dsimp only [List.eraseIdx]
            refine xo_call0 rfl cl24 (vs := [_, _]) rfl (Inst_spec _ _ _ _ _ (hm.mono hle_b22) (LvsS.of2 hm_b22 (h3 _) (h0 _))) (fun v23 m23 _ hle23 hq23 => ?_)
            replace hq23 : InstOut (InstF lvM [.mk 1 3 [], .mk 1 0 []]) v23 m23 [] := hq23
            rw [alive11] at hq23
            obtain ⟨c23, rfl, hx⟩ := hq23
            have hx' := hx
            obtain ⟨k23, n23, l23, a23, cap23, heq23, rfl, -, -, -, -⟩ := hx'.open
            refine xo_nil ⟨⟨_, rfl⟩, fun _ hp => (by cases hp), ?_⟩
            refine xa_env (ρ' := [(23, _), (19, _), (22, _), (21, _), (5, _), (20, _), (1, _), (2, _), (3, _), (4, _)]) rfl ?_
            refine xa_p (by kernel_rfl) 5 18 [23] rfl rfl rfl rfl rfl rfl rfl (pv_none (rn_move rfl)) ?_
            refine xa_p (by kernel_rfl) 6 24 [18] rfl rfl rfl rfl rfl rfl rfl (pv_none (rn_extract rfl rfl)) ?_
            refine xa_p (by kernel_rfl) 7 25 [18] rfl rfl rfl rfl rfl rfl rfl (pv_none (rn_extract rfl rfl)) ?_
            refine xa_effect (by kernel_rfl) 9 rfl rfl (by kernel_rfl) [8, 6, 4, 0, 1, 2, 3, 5] (by kernel_rfl) rfl (pp' := [_]) (pl' := []) (hid := [25]) rfl rfl rfl ?_
            refine xo_store (q := 0) (vs := [_, _, _]) (cs' := [_, _, _]) (μ' := [_, _, _, _, _]) tk24 rfl rfl rfl rfl rfl rfl rfl rfl rfl ?_
            refine xo_nil ⟨⟨undef, rfl⟩, fun _ hp => (by cases hp), ?_⟩
            refine xa_env (ρ' := [(25, _), (24, _), (18, _), (23, _), (19, _), (22, _), (21, _), (5, _), (20, _), (1, _), (2, _), (3, _), (4, _)]) rfl ?_
            refine xa_p (by kernel_rfl) 10 6 [25] rfl rfl rfl rfl rfl rfl rfl (pv_none (rn_assign rfl)) ?_
            refine xa_end (by kernel_rfl) rfl (kcut_normal ?_)
            cases heq23
            exact ⟨(b5, a23, cap23), hx, ⟨rfl, rfl, rfl, rfl, rfl, rfl, trivial⟩, .cons_cons _ (.cons_cons _ (.cons_cons _ (.cons_cons _ (.cons_cons _ (.refl _))))), rfl, hle_b22.trans hle23⟩
        · refine xo_alloc rfl tz24 (cs := [_, _, _]) rfl (fun b5 => ?_)
          refine xo_nil ⟨⟨_, rfl⟩, List.forall_mem_cons.2 ⟨pvl_none (rl_own (q := 1) (v := .agg #[_, _, _]) tk24 rfl rfl rfl), fun _ hp => (by cases hp)⟩, ?_⟩
          refine xa_env (ρ' := [(19, _), (5, _), (1, _), (2, _), (3, _), (4, _)]) rfl ?_
          refine xa_effect (by kernel_rfl) 1 rfl rfl (by kernel_rfl) [] (by kernel_rfl) rfl (pp' := []) (pl' := [_]) (hid := [19]) rfl rfl rfl ?_
          refine xo_callS rfl cl12 (vs := [_]) rfl (Num_spec _ _) ?_
          refine xo_nil ⟨⟨_, rfl⟩, List.forall_mem_cons.2 ⟨pvl_none (rl_own (q := 1) (v := .agg #[_, _, _]) tk24 rfl rfl rfl), fun _ hp => (by cases hp)⟩, ?_⟩
          refine xa_env (ρ' := [(19, _), (20, _), (5, _), (1, _), (2, _), (3, _), (4, _)]) rfl ?_
          refine xa_effect (by kernel_rfl) 2 rfl rfl (by kernel_rfl) [] (by kernel_rfl) rfl (pp' := []) (pl' := [_]) (hid := [19]) rfl rfl rfl ?_
          refine xo_callS rfl cl12 (vs := [_]) rfl (Num_spec _ _) ?_
          refine xo_nil ⟨⟨_, rfl⟩, List.forall_mem_cons.2 ⟨pvl_none (rl_own (q := 1) (v := .agg #[_, _, _]) tk24 rfl rfl rfl), fun _ hp => (by cases hp)⟩, ?_⟩
          refine xa_env (ρ' := [(19, _), (21, _), (20, _), (5, _), (1, _), (2, _), (3, _), (4, _)]) rfl ?_
          refine xa_effect (by kernel_rfl) 3 rfl rfl (by kernel_rfl) [] (by kernel_rfl) rfl (pp' := []) (pl' := [_]) (hid := [19]) rfl rfl rfl ?_
          refine xo_buildSlice (pv := [(_, _), (_, _)]) (zs := [_, _, _, _, _, _]) (cs := [_, _, _, _, _, _]) rfl tsl22 tz24 rfl rfl rfl rfl (fun b22 => ?_)
          refine xo_nil ⟨⟨_, rfl⟩, List.forall_mem_cons.2 ⟨pvl_none (rl_own (q := 2) (v := .agg #[_, _, _]) tk24 rfl rfl rfl), fun _ hp => (by cases hp)⟩, ?_⟩
          refine xa_env (ρ' := [(19, _), (22, _), (21, _), (20, _), (5, _), (1, _), (2, _), (3, _), (4, _)]) rfl ?_
          refine xa_effect (by kernel_rfl) 4 rfl rfl (by kernel_rfl) [0, 3, 2, 1] (by kernel_rfl) rfl (pp' := []) (pl' := []) (hid := []) rfl rfl rfl ?_
          refine xo_freezeBlk (q := 0) rfl (fun m_b22 hle_b22 hm_b22 => ?_)
          dsimp only [List.eraseIdx]
          refine xo_call0 rfl cl24 (vs := [_, _]) rfl (Inst_spec _ _ _ _ _ (hm.mono hle_b22) (LvsS.of2 hm_b22 (h3 _) (h0 _))) (fun v23 m23 _ hle23 hq23 => ?_)
          replace hq23 : InstOut (InstF lvM [.mk 1 3 [], .mk 1 0 []]) v23 m23 [] := hq23
          rw [alive11] at hq23
          obtain ⟨c23, rfl, hx⟩ := hq23
          have hx' := hx
          obtain ⟨k23, n23, l23, a23, cap23, heq23, rfl, -, -, -, -⟩ := hx'.open
          refine xo_nil ⟨⟨_, rfl⟩, fun _ hp => (by cases hp), ?_⟩
          refine xa_env (ρ' := [(23, _), (19, _), (22, _), (21, _), (20, _), (5, _), (1, _), (2, _), (3, _), (4, _)]) rfl ?_
          refine xa_p (by kernel_rfl) 5 18 [23] rfl rfl rfl rfl rfl rfl rfl (pv_none (rn_move rfl)) ?_
          refine xa_p (by kernel_rfl) 6 24 [18] rfl rfl rfl rfl rfl rfl rfl (pv_none (rn_extract rfl rfl)) ?_
          refine xa_p (by kernel_rfl) 7 25 [18] rfl rfl rfl rfl rfl rfl rfl (pv_none (rn_extract rfl rfl)) ?_
          refine xa_effect (by kernel_rfl) 9 rfl rfl (by kernel_rfl) [8, 6, 4, 0, 1, 2, 3, 5] (by kernel_rfl) rfl (pp' := [_]) (pl' := []) (hid := [25]) rfl rfl rfl ?_
          refine xo_store (q := 0) (vs := [_, _, _]) (cs' := [_, _, _]) (μ' := [_, _, _, _, _]) tk24 rfl rfl rfl rfl rfl rfl rfl rfl rfl ?_
          refine xo_nil ⟨⟨undef, rfl⟩, fun _ hp => (by cases hp), ?_⟩
          refine xa_env (ρ' := [(25, _), (24, _), (18, _), (23, _), (19, _), (22, _), (21, _), (20, _), (5, _), (1, _), (2, _), (3, _), (4, _)]) rfl ?_
          refine xa_p (by kernel_rfl) 10 6 [25] rfl rfl rfl rfl rfl rfl rfl (pv_none (rn_assign rfl)) ?_
          refine xa_end (by kernel_rfl) rfl (kcut_normal ?_)
          cases heq23
          exact ⟨(b5, a23, cap23), hx, ⟨rfl, rfl, rfl, rfl, rfl, rfl, trivial⟩, .cons_cons _ (.cons_cons _ (.cons_cons _ (.cons_cons _ (.cons_cons _ (.refl _))))), rfl, hle_b22.trans hle23⟩
      · rintro ⟨b5, a23, cap23⟩ mx hx hlex
        dsimp only at hx ⊢
        replace hi := hi.mono hlex
        replace hm := hm.mono hlex
        refine kseq_normal ?_
        refine x_seq ?_
        refine x_env (ρ' := [(1, _), (2, _), (3, _), (4, _), (5, _), (6, _)]) ⟨rfl, rfl, rfl, rfl, rfl, rfl, trivial⟩ ?_
        refine x_region_draw (by kernel_rfl) ?_
        refine xa_p (by kernel_rfl) 0 26 [6] rfl rfl rfl rfl rfl rfl rfl (pv_none (rn_move rfl)) ?_
        refine xa_p (by kernel_rfl) 1 27 [26] rfl rfl rfl rfl rfl rfl rfl (pv_none (rn_move rfl)) ?_
        refine xa_l (by kernel_rfl) 2 28 [3, 27] rfl rfl rfl rfl rfl rfl rfl (pvl_run rfl rfl rfl (rl_own (q := 2) (v := .agg #[_, _, _]) tk24 rfl rfl rfl)) ?_
        refine xa_l (by kernel_rfl) 3 29 [4, 27] rfl rfl rfl rfl rfl rfl rfl (pvl_run rfl rfl rfl (rl_own (q := 1) (v := .agg #[_, _, _]) tk24 rfl rfl rfl)) ?_
        refine xa_effect (by kernel_rfl) 4 rfl rfl (by kernel_rfl) [2, 3, 1, 0] (by kernel_rfl) rfl (pp' := []) (pl' := []) (hid := []) rfl rfl rfl ?_
        refine xo_guard_yes rfl rfl rfl ?_ rfl
        refine xo_callS rfl cl17 (vs := [_, _]) rfl (Leq_is hi hm alive1) ?_
        refine xo_nil ⟨⟨_, rfl⟩, fun _ hp => (by cases hp), ?_⟩
        refine xa_env (ρ' := [(30, _), (29, _), (28, _), (27, _), (26, _), (1, _), (2, _), (3, _), (4, _), (5, _), (6, _)]) rfl ?_
        refine xa_p (by kernel_rfl) 5 31 [27, 30] rfl rfl rfl rfl rfl rfl rfl (pv_none (rn_pick_t rfl rfl rfl)) ?_
        refine xa_p (by kernel_rfl) 6 32 [31] rfl rfl rfl rfl rfl rfl rfl (pv_none (rn_move rfl)) ?_
        refine xa_l (by kernel_rfl) 7 33 [4, 32] rfl rfl rfl rfl rfl rfl rfl (pvl_run rfl rfl rfl (rl_own (q := 1) (v := .agg #[_, _, _]) tk24 rfl rfl rfl)) ?_
        refine xa_l (by kernel_rfl) 8 34 [3, 32] rfl rfl rfl rfl rfl rfl rfl (pvl_run rfl rfl rfl (rl_own (q := 2) (v := .agg #[_, _, _]) tk24 rfl rfl rfl)) ?_
        refine xa_effect (by kernel_rfl) 9 rfl rfl (by kernel_rfl) [7, 8, 6, 5, 4, 1, 2, 3, 0] (by kernel_rfl) rfl (pp' := []) (pl' := []) (hid := []) rfl rfl rfl ?_
        refine xo_guard_yes rfl rfl rfl ?_ rfl
        refine xo_callS rfl cl17 (vs := [_, _]) rfl (Leq_is hm hi alive2) ?_
        refine xo_nil ⟨⟨_, rfl⟩, fun _ hp => (by cases hp), ?_⟩
        refine xa_env (ρ' := [(35, _), (34, _), (33, _), (32, _), (31, _), (30, _), (29, _), (28, _), (27, _), (26, _), (1, _), (2, _), (3, _), (4, _), (5, _), (6, _)]) rfl ?_
        refine xa_p (by kernel_rfl) 10 36 [35, 32] rfl rfl rfl rfl rfl rfl rfl (pv_run rfl rfl rfl (rn_not rfl)) ?_
        refine xa_p (by kernel_rfl) 11 37 [32, 36] rfl rfl rfl rfl rfl rfl rfl (pv_none (rn_pick_t rfl rfl rfl)) ?_
        refine xa_p (by kernel_rfl) 12 38 [37] rfl rfl rfl rfl rfl rfl rfl (pv_none (rn_move rfl)) ?_
        refine xa_l (by kernel_rfl) 13 39 [5, 38] rfl rfl rfl rfl rfl rfl rfl (pvl_run rfl rfl rfl (rl_own (q := 0) (v := .agg #[_, _, _]) tk24 rfl rfl rfl)) ?_
        refine xa_effect (by kernel_rfl) 14 rfl rfl (by kernel_rfl) [13, 12, 11, 9, 6, 10, 7, 8, 5, 4, 1, 2, 3, 0] (by kernel_rfl) rfl (pp' := []) (pl' := []) (hid := []) rfl rfl rfl ?_
        refine xo_guard_yes rfl rfl rfl ?_ rfl
        refine xo_callS rfl cl15 (vs := [_, _]) rfl (Value_is hx (vs := []) ⟨none, 0, rfl, by simp, by simp, by simp⟩ alive3) ?_
        refine xo_nil ⟨⟨_, rfl⟩, fun _ hp => (by cases hp), ?_⟩
        refine xa_env (ρ' := [(40, _), (39, _), (38, _), (37, _), (36, _), (35, _), (34, _), (33, _), (32, _), (31, _), (30, _), (29, _), (28, _), (27, _), (26, _), (1, _), (2, _), (3, _), (4, _), (5, _), (6, _)]) rfl ?_
        refine xa_p (by kernel_rfl) 15 41 [40, 38] rfl rfl rfl rfl rfl rfl rfl (pv_run rfl rfl rfl ((rn_eql (i := 4) (j := 4) rfl rfl : Rn _ _ _ _ (.bool true)))) ?_
        refine xa_p (by kernel_rfl) 16 42 [38, 41] rfl rfl rfl rfl rfl rfl rfl (pv_none (rn_pick_t rfl rfl rfl)) ?_
        refine xa_p (by kernel_rfl) 17 43 [42] rfl rfl rfl rfl rfl rfl rfl (pv_none (rn_move rfl)) ?_
        refine xa_l (by kernel_rfl) 18 44 [3, 43] rfl rfl rfl rfl rfl rfl rfl (pvl_run rfl rfl rfl (rl_own (q := 2) (v := .agg #[_, _, _]) tk24 rfl rfl rfl)) ?_
        refine xa_effect (by kernel_rfl) 19 rfl rfl (by kernel_rfl) [17, 16, 14, 12, 15, 13, 11, 9, 6, 10, 7, 8, 5, 4, 1, 2, 3, 0] (by kernel_rfl) rfl (pp' := []) (pl' := [_]) (hid := [44]) rfl rfl rfl ?_
        refine xo_guard_yes rfl rfl rfl ?_ rfl
        refine xo_buildSlice (pv := [(_, _), (_, _)]) (zs := [_, _]) (cs := [_, _]) rfl tsl25 tz3 rfl rfl rfl rfl (fun b45 => ?_)
        refine xo_nil ⟨⟨_, rfl⟩, List.forall_mem_cons.2 ⟨pvl_run rfl rfl rfl (rl_own (q := 3) (v := .agg #[_, _, _]) tk24 rfl rfl rfl), fun _ hp => (by cases hp)⟩, ?_⟩
        refine xa_env (ρ' := [(44, _), (45, _), (43, _), (42, _), (41, _), (40, _), (39, _), (38, _), (37, _), (36, _), (35, _), (34, _), (33, _), (32, _), (31, _), (30, _), (29, _), (28, _), (27, _), (26, _), (1, _), (2, _), (3, _), (4, _), (5, _), (6, _)]) rfl ?_
        refine xa_effect (by kernel_rfl) 20 rfl rfl (by kernel_rfl) [18, 19, 17, 16, 14, 12, 15, 13, 11, 9, 6, 10, 7, 8, 5, 4, 1, 2, 3, 0] (by kernel_rfl) rfl (pp' := []) (pl' := []) (hid := []) rfl rfl rfl ?_
        refine xo_guard_yes rfl rfl rfl ?_ rfl
        refine xo_freezeBlk (q := 0) rfl (fun m_b45 hle_b45 hm_b45 => ?_)
        replace hi := hi.mono hle_b45
        replace hm := hm.mono hle_b45
        dsimp only [List.eraseIdx]
        refine xo_callS rfl cl15 (vs := [_, _]) rfl (Value_is hi (IntsV.of_blk (vs := [5, 0]) hm_b45 (by simp)) alive4) ?_
        refine xo_nil ⟨⟨_, rfl⟩, fun _ hp => (by cases hp), ?_⟩
        refine xa_env (ρ' := [(46, _), (44, _), (45, _), (43, _), (42, _), (41, _), (40, _), (39, _), (38, _), (37, _), (36, _), (35, _), (34, _), (33, _), (32, _), (31, _), (30, _), (29, _), (28, _), (27, _), (26, _), (1, _), (2, _), (3, _), (4, _), (5, _), (6, _)]) rfl ?_
        refine xa_p (by kernel_rfl) 21 47 [46, 43] rfl rfl rfl rfl rfl rfl rfl (pv_run rfl rfl rfl ((rn_eql (i := 0) (j := 0) rfl rfl : Rn _ _ _ _ (.bool true)))) ?_
        refine xa_p (by kernel_rfl) 22 48 [43, 47] rfl rfl rfl rfl rfl rfl rfl (pv_none (rn_pick_t rfl rfl rfl)) ?_
        refine xa_p (by kernel_rfl) 23 49 [48] rfl rfl rfl rfl rfl rfl rfl (pv_none (rn_move rfl)) ?_
        refine xa_l (by kernel_rfl) 24 50 [4, 49] rfl rfl rfl rfl rfl rfl rfl (pvl_run rfl rfl rfl (rl_own (q := 1) (v := .agg #[_, _, _]) tk24 rfl rfl rfl)) ?_
        refine xa_effect (by kernel_rfl) 25 rfl rfl (by kernel_rfl) [24, 23, 22, 20, 17, 21, 18, 19, 16, 14, 12, 15, 13, 11, 9, 6, 10, 7, 8, 5, 4, 1, 2, 3, 0] (by kernel_rfl) rfl (pp' := []) (pl' := []) (hid := []) rfl rfl rfl ?_
        refine xo_guard_yes rfl rfl rfl ?_ rfl
        refine xo_callS rfl cl13 (vs := [_, _]) rfl (Right_is hm alive5) ?_
        refine xo_nil ⟨⟨_, rfl⟩, fun _ hp => (by cases hp), ?_⟩
        refine xa_env (ρ' := [(51, _), (50, _), (49, _), (48, _), (47, _), (46, _), (44, _), (45, _), (43, _), (42, _), (41, _), (40, _), (39, _), (38, _), (37, _), (36, _), (35, _), (34, _), (33, _), (32, _), (31, _), (30, _), (29, _), (28, _), (27, _), (26, _), (1, _), (2, _), (3, _), (4, _), (5, _), (6, _)]) rfl ?_
        refine xa_p (by kernel_rfl) 26 52 [49, 51] rfl rfl rfl rfl rfl rfl rfl (pv_none (rn_pick_t rfl rfl rfl)) ?_
        refine xa_p (by kernel_rfl) 27 53 [52] rfl rfl rfl rfl rfl rfl rfl (pv_none (rn_move rfl)) ?_
        refine xa_l (by kernel_rfl) 28 54 [4, 53] rfl rfl rfl rfl rfl rfl rfl (pvl_run rfl rfl rfl (rl_own (q := 1) (v := .agg #[_, _, _]) tk24 rfl rfl rfl)) ?_
        refine xa_effect (by kernel_rfl) 29 rfl rfl (by kernel_rfl) [28, 27, 26, 25, 23, 24, 22, 20, 17, 21, 18, 19, 16, 14, 12, 15, 13, 11, 9, 6, 10, 7, 8, 5, 4, 1, 2, 3, 0] (by kernel_rfl) rfl (pp' := []) (pl' := []) (hid := []) rfl rfl rfl ?_
        refine xo_guard_yes rfl rfl rfl ?_ rfl
        refine xo_callS rfl cl13 (vs := [_, _]) rfl (Right_is hm alive6) ?_
        refine xo_nil ⟨⟨_, rfl⟩, fun _ hp => (by cases hp), ?_⟩
        refine xa_env (ρ' := [(55, _), (54, _), (53, _), (52, _), (51, _), (50, _), (49, _), (48, _), (47, _), (46, _), (44, _), (45, _), (43, _), (42, _), (41, _), (40, _), (39, _), (38, _), (37, _), (36, _), (35, _), (34, _), (33, _), (32, _), (31, _), (30, _), (29, _), (28, _), (27, _), (26, _), (1, _), (2, _), (3, _), (4, _), (5, _), (6, _)]) rfl ?_
        refine xa_p (by kernel_rfl) 30 56 [55, 53] rfl rfl rfl rfl rfl rfl rfl (pv_run rfl rfl rfl (rn_not rfl)) ?_
        refine xa_p (by kernel_rfl) 31 57 [53, 56] rfl rfl rfl rfl rfl rfl rfl (pv_none (rn_pick_t rfl rfl rfl)) ?_
        refine xa_p (by kernel_rfl) 32 58 [57] rfl rfl rfl rfl rfl rfl rfl (pv_none (rn_move rfl)) ?_
        refine xa_l (by kernel_rfl) 33 59 [1, 58] rfl rfl rfl rfl rfl rfl rfl (pvl_run rfl rfl rfl (rl_own (q := 4) (v := .agg #[_, _, _]) tk24 rfl rfl rfl)) ?_
        refine xa_l (by kernel_rfl) 34 60 [2, 58] rfl rfl rfl rfl rfl rfl rfl (pvl_run rfl rfl rfl (rl_own (q := 3) (v := .agg #[_, _, _]) tk24 rfl rfl rfl)) ?_
        refine xa_l (by kernel_rfl) 37 63 [2, 58] rfl rfl rfl rfl rfl rfl rfl (pvl_run rfl rfl rfl (rl_own (q := 3) (v := .agg #[_, _, _]) tk24 rfl rfl rfl)) ?_
        refine xa_l (by kernel_rfl) 38 64 [1, 58] rfl rfl rfl rfl rfl rfl rfl (pvl_run rfl rfl rfl (rl_own (q := 4) (v := .agg #[_, _, _]) tk24 rfl rfl rfl)) ?_
        refine xa_effect2 (by kernel_rfl) 35 39 rfl rfl rfl (by kernel_rfl) [33, 34, 32, 31, 29, 27, 30, 28, 26, 25, 23, 24, 22, 20, 17, 21, 18, 19, 16, 14, 12, 15, 13, 11, 9, 6, 10, 7, 8, 5, 4, 1, 2, 3, 0] [37, 38, 32, 31, 29, 27, 30, 28, 26, 25, 23, 24, 22, 20, 17, 21, 18, 19, 16, 14, 12, 15, 13, 11, 9, 6, 10, 7, 8, 5, 4, 1, 2, 3, 0] (by kernel_rfl) (by kernel_rfl) rfl (pp' := []) (pl' := [_, _]) (hid := [64, 63]) rfl rfl rfl (qp' := []) (ql' := [_, _]) (hiq := [60, 59]) rfl rfl rfl ?_ ?_
        · refine xo_guard_yes rfl rfl rfl ?_ rfl
          refine xo_buildSlice (pv := [(_, _), (_, _)]) (zs := [_, _, _, _, _, _]) (cs := [_, _, _, _, _, _]) rfl tsl22 tz24 rfl rfl rfl rfl (fun b61 => ?_)
          refine xo_nil ⟨⟨_, rfl⟩, List.forall_mem_cons.2 ⟨pvl_run rfl rfl rfl (rl_own (q := 5) (v := .agg #[_, _, _]) tk24 rfl rfl rfl),  List.forall_mem_cons.2 ⟨pvl_run rfl rfl rfl (rl_own (q := 4) (v := .agg #[_, _, _]) tk24 rfl rfl rfl), fun _ hp => (by cases hp)⟩⟩, ?_⟩
          refine xa_env (ρ' := [(64, _), (63, _), (61, _), (60, _), (59, _), (58, _), (57, _), (56, _), (55, _), (54, _), (53, _), (52, _), (51, _), (50, _), (49, _), (48, _), (47, _), (46, _), (44, _), (45, _), (43, _), (42, _), (41, _), (40, _), (39, _), (38, _), (37, _), (36, _), (35, _), (34, _), (33, _), (32, _), (31, _), (30, _), (29, _), (28, _), (27, _), (26, _), (1, _), (2, _), (3, _), (4, _), (5, _), (6, _)]) rfl ?_
          refine xa_effect2 (by kernel_rfl) 36 39 rfl rfl rfl (by kernel_rfl) [] [37, 38, 32, 31, 29, 27, 30, 28, 26, 25, 23, 24, 22, 20, 17, 21, 18, 19, 16, 14, 12, 15, 13, 11, 9, 6, 10, 7, 8, 5, 4, 1, 2, 3, 0] (by kernel_rfl) (by kernel_rfl) rfl (pp' := []) (pl' := [_, _]) (hid := [64, 63]) rfl rfl rfl (qp' := []) (ql' := []) (hiq := []) rfl rfl rfl ?_ ?_
          · refine xo_guard_yes rfl rfl rfl ?_ rfl
            refine xo_freezeBlk (q := 0) rfl (fun m_b61 hle_b61 hm_b61 => ?_)
            replace hm := hm.mono hle_b61
            try replace hs66 := hs66.mono hle_b61
            dsimp only [List.eraseIdx]
            refine xo_call0 rfl cl26 (vs := [_]) rfl (Max_spec _ _ _ (LvsS.of2 hm_b61 (hu _) (hv _))) (fun v62 m62 _ hle62 hq62 => ?_)
            obtain ⟨c62, rfl, hs62⟩ := hq62
            have hs62' := hs62
            obtain ⟨k62, n62, l62, a62, cap62, heq62, rfl, -, -, -, -⟩ := hs62'.open
            replace hm := hm.mono hle62
            try replace hs66 := hs66.mono hle62
            refine xo_nil ⟨⟨_, rfl⟩, List.forall_mem_cons.2 ⟨pvl_run rfl rfl rfl (rl_own (q := 4) (v := .agg #[_, _, _]) tk24 rfl rfl rfl),  List.forall_mem_cons.2 ⟨pvl_run rfl rfl rfl (rl_own (q := 3) (v := .agg #[_, _, _]) tk24 rfl rfl rfl), fun _ hp => (by cases hp)⟩⟩, ?_⟩
            refine xa_env (ρ' := [(64, _), (63, _), (62, _), (61, _), (60, _), (59, _), (58, _), (57, _), (56, _), (55, _), (54, _), (53, _), (52, _), (51, _), (50, _), (49, _), (48, _), (47, _), (46, _), (44, _), (45, _), (43, _), (42, _), (41, _), (40, _), (39, _), (38, _), (37, _), (36, _), (35, _), (34, _), (33, _), (32, _), (31, _), (30, _), (29, _), (28, _), (27, _), (26, _), (1, _), (2, _), (3, _), (4, _), (5, _), (6, _)]) rfl ?_
            refine xa_effect (by kernel_rfl) 39 rfl rfl (by kernel_rfl) [37, 38, 32, 31, 29, 27, 30, 28, 26, 25, 23, 24, 22, 20, 17, 21, 18, 19, 16, 14, 12, 15, 13, 11, 9, 6, 10, 7, 8, 5, 4, 1, 2, 3, 0] (by kernel_rfl) rfl (pp' := []) (pl' := []) (hid := []) rfl rfl rfl ?_
            refine xo_guard_yes rfl rfl rfl ?_ rfl
            refine xo_buildSlice (pv := [(_, _), (_, _)]) (zs := [_, _, _, _, _, _]) (cs := [_, _, _, _, _, _]) rfl tsl22 tz24 rfl rfl rfl rfl (fun b65 => ?_)
            refine xo_nil ⟨⟨_, rfl⟩, fun _ hp => (by cases hp), ?_⟩
            refine xa_env (ρ' := [(65, _), (64, _), (63, _), (62, _), (61, _), (60, _), (59, _), (58, _), (57, _), (56, _), (55, _), (54, _), (53, _), (52, _), (51, _), (50, _), (49, _), (48, _), (47, _), (46, _), (44, _), (45, _), (43, _), (42, _), (41, _), (40, _), (39, _), (38, _), (37, _), (36, _), (35, _), (34, _), (33, _), (32, _), (31, _), (30, _), (29, _), (28, _), (27, _), (26, _), (1, _), (2, _), (3, _), (4, _), (5, _), (6, _)]) rfl ?_
            refine xa_effect (by kernel_rfl) 40 rfl rfl (by kernel_rfl) [] (by kernel_rfl) rfl (pp' := []) (pl' := []) (hid := []) rfl rfl rfl ?_
            refine xo_guard_yes rfl rfl rfl ?_ rfl
            refine xo_freezeBlk (q := 0) rfl (fun m_b65 hle_b65 hm_b65 => ?_)
            replace hm := hm.mono hle_b65
            try replace hs62 := hs62.mono hle_b65
            dsimp only [List.eraseIdx]
            refine xo_call0 rfl cl26 (vs := [_]) rfl (Max_spec _ _ _ (LvsS.of2 hm_b65 (hv _) (hu _))) (fun v66 m66 _ hle66 hq66 => ?_)
            obtain ⟨c66, rfl, hs66⟩ := hq66
            have hs66' := hs66
            obtain ⟨k66, n66, l66, a66, cap66, heq66, rfl, -, -, -, -⟩ := hs66'.open
            replace hm := hm.mono hle66
            try replace hs62 := hs62.mono hle66
            refine xo_nil ⟨⟨_, rfl⟩, fun _ hp => (by cases hp), ?_⟩
            refine xa_env (ρ' := [(66, _), (65, _), (64, _), (63, _), (62, _), (61, _), (60, _), (59, _), (58, _), (57, _), (56, _), (55, _), (54, _), (53, _), (52, _), (51, _), (50, _), (49, _), (48, _), (47, _), (46, _), (44, _), (45, _), (43, _), (42, _), (41, _), (40, _), (39, _), (38, _), (37, _), (36, _), (35, _), (34, _), (33, _), (32, _), (31, _), (30, _), (29, _), (28, _), (27, _), (26, _), (1, _), (2, _), (3, _), (4, _), (5, _), (6, _)]) rfl ?_
            refine xa_effect (by kernel_rfl) 41 rfl rfl (by kernel_rfl) [] (by kernel_rfl) rfl (pp' := []) (pl' := []) (hid := []) rfl rfl rfl ?_
            refine xo_guard_yes rfl rfl rfl ?_ rfl
            refine xo_callS rfl cl18 (vs := [_, _]) rfl (Same_is hs62 hs66 alive7) ?_
            refine xo_nil ⟨⟨_, rfl⟩, fun _ hp => (by cases hp), ?_⟩
            refine xa_env (ρ' := [(67, _), (66, _), (65, _), (64, _), (63, _), (62, _), (61, _), (60, _), (59, _), (58, _), (57, _), (56, _), (55, _), (54, _), (53, _), (52, _), (51, _), (50, _), (49, _), (48, _), (47, _), (46, _), (44, _), (45, _), (43, _), (42, _), (41, _), (40, _), (39, _), (38, _), (37, _), (36, _), (35, _), (34, _), (33, _), (32, _), (31, _), (30, _), (29, _), (28, _), (27, _), (26, _), (1, _), (2, _), (3, _), (4, _), (5, _), (6, _)]) rfl ?_
            refine xa_p (by kernel_rfl) 42 68 [58, 67] rfl rfl rfl rfl rfl rfl rfl (pv_none (rn_pick_t rfl rfl rfl)) ?_
            refine xa_p (by kernel_rfl) 43 69 [68] rfl rfl rfl rfl rfl rfl rfl (pv_none (rn_move rfl)) ?_
            refine xa_l (by kernel_rfl) 44 70 [1, 69] rfl rfl rfl rfl rfl rfl rfl (pvl_run rfl rfl rfl (rl_own (q := 4) (v := .agg #[_, _, _]) tk24 rfl rfl rfl)) ?_
            refine xa_effect (by kernel_rfl) 45 rfl rfl (by kernel_rfl) [43, 42, 41, 32, 36, 40, 31, 29, 35, 39, 27, 30, 28, 33, 34, 37, 38, 26, 25, 23, 24, 22, 20, 17, 21, 18, 19, 16, 14, 12, 15, 13, 11, 9, 6, 10, 7, 8, 5, 4, 1, 2, 3, 0] (by kernel_rfl) rfl (pp' := []) (pl' := [_]) (hid := [70]) rfl rfl rfl ?_
            refine xo_guard_yes rfl rfl rfl ?_ rfl
            refine xo_callS rfl cl12 (vs := [_]) rfl (Num_spec _ _) ?_
            refine xo_nil ⟨⟨_, rfl⟩, List.forall_mem_cons.2 ⟨pvl_run rfl rfl rfl (rl_own (q := 4) (v := .agg #[_, _, _]) tk24 rfl rfl rfl), fun _ hp => (by cases hp)⟩, ?_⟩
            refine xa_env (ρ' := [(70, _), (71, _), (69, _), (68, _), (67, _), (66, _), (65, _), (64, _), (63, _), (62, _), (61, _), (60, _), (59, _), (58, _), (57, _), (56, _), (55, _), (54, _), (53, _), (52, _), (51, _), (50, _), (49, _), (48, _), (47, _), (46, _), (44, _), (45, _), (43, _), (42, _), (41, _), (40, _), (39, _), (38, _), (37, _), (36, _), (35, _), (34, _), (33, _), (32, _), (31, _), (30, _), (29, _), (28, _), (27, _), (26, _), (1, _), (2, _), (3, _), (4, _), (5, _), (6, _)]) rfl ?_
            refine xa_effect (by kernel_rfl) 46 rfl rfl (by kernel_rfl) [44, 45, 43, 42, 41, 32, 36, 40, 31, 29, 35, 39, 27, 30, 28, 33, 34, 37, 38, 26, 25, 23, 24, 22, 20, 17, 21, 18, 19, 16, 14, 12, 15, 13, 11, 9, 6, 10, 7, 8, 5, 4, 1, 2, 3, 0] (by kernel_rfl) rfl (pp' := []) (pl' := []) (hid := []) rfl rfl rfl ?_
            refine xo_guard_yes rfl rfl rfl ?_ rfl
            refine xo_call0 rfl cl27 (vs := [_, _]) rfl (IMax_spec _ _ _ _ _ (hu _) (h0 _)) (fun v72 m72 _ hle72 hq72 => ?_)
            obtain ⟨c72, rfl, hs72⟩ := hq72
            have hs72' := hs72
            obtain ⟨k72, n72, l72, a72, cap72, heq72, rfl, -, -, -, -⟩ := hs72'.open
            replace hm := hm.mono hle72
            refine xo_nil ⟨⟨_, rfl⟩, fun _ hp => (by cases hp), ?_⟩
            refine xa_env (ρ' := [(72, _), (70, _), (71, _), (69, _), (68, _), (67, _), (66, _), (65, _), (64, _), (63, _), (62, _), (61, _), (60, _), (59, _), (58, _), (57, _), (56, _), (55, _), (54, _), (53, _), (52, _), (51, _), (50, _), (49, _), (48, _), (47, _), (46, _), (44, _), (45, _), (43, _), (42, _), (41, _), (40, _), (39, _), (38, _), (37, _), (36, _), (35, _), (34, _), (33, _), (32, _), (31, _), (30, _), (29, _), (28, _), (27, _), (26, _), (1, _), (2, _), (3, _), (4, _), (5, _), (6, _)]) rfl ?_
            refine xa_effect (by kernel_rfl) 47 rfl rfl (by kernel_rfl) [] (by kernel_rfl) rfl (pp' := []) (pl' := []) (hid := []) rfl rfl rfl ?_
            refine xo_guard_yes rfl rfl rfl ?_ rfl
            refine xo_callS rfl cl19 (vs := [_]) rfl (Zero_is hs72 alive8) ?_
            refine xo_nil ⟨⟨_, rfl⟩, fun _ hp => (by cases hp), ?_⟩
            refine xa_env (ρ' := [(73, _), (72, _), (70, _), (71, _), (69, _), (68, _), (67, _), (66, _), (65, _), (64, _), (63, _), (62, _), (61, _), (60, _), (59, _), (58, _), (57, _), (56, _), (55, _), (54, _), (53, _), (52, _), (51, _), (50, _), (49, _), (48, _), (47, _), (46, _), (44, _), (45, _), (43, _), (42, _), (41, _), (40, _), (39, _), (38, _), (37, _), (36, _), (35, _), (34, _), (33, _), (32, _), (31, _), (30, _), (29, _), (28, _), (27, _), (26, _), (1, _), (2, _), (3, _), (4, _), (5, _), (6, _)]) rfl ?_
            refine xa_p (by kernel_rfl) 48 74 [69, 73] rfl rfl rfl rfl rfl rfl rfl (pv_none (rn_pick_t rfl rfl rfl)) ?_
            refine xa_p (by kernel_rfl) 49 75 [74] rfl rfl rfl rfl rfl rfl rfl (pv_none (rn_move rfl)) ?_
            refine xa_l (by kernel_rfl) 50 76 [1, 75] rfl rfl rfl rfl rfl rfl rfl (pvl_run rfl rfl rfl (rl_own (q := 4) (v := .agg #[_, _, _]) tk24 rfl rfl rfl)) ?_
            refine xa_effect (by kernel_rfl) 51 rfl rfl (by kernel_rfl) [50, 49, 48, 47, 43, 46, 42, 41, 44, 45, 32, 36, 40, 31, 29, 35, 39, 27, 30, 28, 33, 34, 37, 38, 26, 25, 23, 24, 22, 20, 17, 21, 18, 19, 16, 14, 12, 15, 13, 11, 9, 6, 10, 7, 8, 5, 4, 1, 2, 3, 0] (by kernel_rfl) rfl (pp' := []) (pl' := []) (hid := []) rfl rfl rfl ?_
            refine xo_guard_yes rfl rfl rfl ?_ rfl
            refine xo_call0 rfl cl28 (vs := [_]) rfl (Succ_spec _ _ _ (hu _)) (fun v77 m77 _ hle77 hq77 => ?_)
            obtain ⟨c77, rfl, hs77⟩ := hq77
            have hs77' := hs77
            obtain ⟨k77, n77, l77, a77, cap77, heq77, rfl, -, -, -, -⟩ := hs77'.open
            replace hm := hm.mono hle77
            refine xo_nil ⟨⟨_, rfl⟩, fun _ hp => (by cases hp), ?_⟩
            refine xa_env (ρ' := [(77, _), (76, _), (75, _), (74, _), (73, _), (72, _), (70, _), (71, _), (69, _), (68, _), (67, _), (66, _), (65, _), (64, _), (63, _), (62, _), (61, _), (60, _), (59, _), (58, _), (57, _), (56, _), (55, _), (54, _), (53, _), (52, _), (51, _), (50, _), (49, _), (48, _), (47, _), (46, _), (44, _), (45, _), (43, _), (42, _), (41, _), (40, _), (39, _), (38, _), (37, _), (36, _), (35, _), (34, _), (33, _), (32, _), (31, _), (30, _), (29, _), (28, _), (27, _), (26, _), (1, _), (2, _), (3, _), (4, _), (5, _), (6, _)]) rfl ?_
            refine xa_effect (by kernel_rfl) 52 rfl rfl (by kernel_rfl) [] (by kernel_rfl) rfl (pp' := []) (pl' := []) (hid := []) rfl rfl rfl ?_
            refine xo_guard_yes rfl rfl rfl ?_ rfl
            refine xo_callS rfl cl20 (vs := [_]) rfl (Never_is hs77 alive9) ?_
            refine xo_nil ⟨⟨_, rfl⟩, fun _ hp => (by cases hp), ?_⟩
            refine xa_env (ρ' := [(78, _), (77, _), (76, _), (75, _), (74, _), (73, _), (72, _), (70, _), (71, _), (69, _), (68, _), (67, _), (66, _), (65, _), (64, _), (63, _), (62, _), (61, _), (60, _), (59, _), (58, _), (57, _), (56, _), (55, _), (54, _), (53, _), (52, _), (51, _), (50, _), (49, _), (48, _), (47, _), (46, _), (44, _), (45, _), (43, _), (42, _), (41, _), (40, _), (39, _), (38, _), (37, _), (36, _), (35, _), (34, _), (33, _), (32, _), (31, _), (30, _), (29, _), (28, _), (27, _), (26, _), (1, _), (2, _), (3, _), (4, _), (5, _), (6, _)]) rfl ?_
            refine xa_p (by kernel_rfl) 53 79 [75, 78] rfl rfl rfl rfl rfl rfl rfl (pv_none (rn_pick_t rfl rfl rfl)) ?_
            refine xa_p (by kernel_rfl) 54 80 [79] rfl rfl rfl rfl rfl rfl rfl (pv_none (rn_move rfl)) ?_
            refine xa_l (by kernel_rfl) 55 81 [4, 80] rfl rfl rfl rfl rfl rfl rfl (pvl_run rfl rfl rfl (rl_own (q := 1) (v := .agg #[_, _, _]) tk24 rfl rfl rfl)) ?_
            refine xa_effect (by kernel_rfl) 56 rfl rfl (by kernel_rfl) [55, 54, 53, 52, 49, 51, 48, 47, 50, 43, 46, 42, 41, 44, 45, 32, 36, 40, 31, 29, 35, 39, 27, 30, 28, 33, 34, 37, 38, 26, 25, 23, 24, 22, 20, 17, 21, 18, 19, 16, 14, 12, 15, 13, 11, 9, 6, 10, 7, 8, 5, 4, 1, 2, 3, 0] (by kernel_rfl) rfl (pp' := []) (pl' := []) (hid := []) rfl rfl rfl ?_
            refine xo_guard_yes rfl rfl rfl ?_ rfl
            refine xo_callS rfl cl21 (vs := [_]) rfl (Nodes_is hm alive10) ?_
            refine xo_nil ⟨⟨_, rfl⟩, fun _ hp => (by cases hp), ?_⟩
            refine xa_env (ρ' := [(82, _), (81, _), (80, _), (79, _), (78, _), (77, _), (76, _), (75, _), (74, _), (73, _), (72, _), (70, _), (71, _), (69, _), (68, _), (67, _), (66, _), (65, _), (64, _), (63, _), (62, _), (61, _), (60, _), (59, _), (58, _), (57, _), (56, _), (55, _), (54, _), (53, _), (52, _), (51, _), (50, _), (49, _), (48, _), (47, _), (46, _), (44, _), (45, _), (43, _), (42, _), (41, _), (40, _), (39, _), (38, _), (37, _), (36, _), (35, _), (34, _), (33, _), (32, _), (31, _), (30, _), (29, _), (28, _), (27, _), (26, _), (1, _), (2, _), (3, _), (4, _), (5, _), (6, _)]) rfl ?_
            refine xa_p (by kernel_rfl) 57 83 [82, 80] rfl rfl rfl rfl rfl rfl rfl (pv_run rfl rfl rfl ((rn_eql (i := 4) (j := 4) rfl rfl : Rn _ _ _ _ (.bool true)))) ?_
            refine xa_p (by kernel_rfl) 58 84 [80, 83] rfl rfl rfl rfl rfl rfl rfl (pv_none (rn_pick_t rfl rfl rfl)) ?_
            refine xa_p (by kernel_rfl) 59 0 [84] rfl rfl rfl rfl rfl rfl rfl (pv_none (rn_assign rfl)) ?_
            refine xa_end (by kernel_rfl) rfl (kseq_normal ?_)
            refine x_ret ?_
            refine ⟨rfl, [_], .cons (.tmp rfl) (.nil), fin_drop (μ' := []) (List.nil_sublist _) (fin_done (ret_tup1 ?_))⟩
            rfl
          · refine xo_guard_yes rfl rfl rfl ?_ rfl
            refine xo_buildSlice (pv := [(_, _), (_, _)]) (zs := [_, _, _, _, _, _]) (cs := [_, _, _, _, _, _]) rfl tsl22 tz24 rfl rfl rfl rfl (fun b65 => ?_)
            refine xo_nil ⟨⟨_, rfl⟩, fun _ hp => (by cases hp), ?_⟩
            refine xa_env (ρ' := [(65, _), (64, _), (63, _), (61, _), (60, _), (59, _), (58, _), (57, _), (56, _), (55, _), (54, _), (53, _), (52, _), (51, _), (50, _), (49, _), (48, _), (47, _), (46, _), (44, _), (45, _), (43, _), (42, _), (41, _), (40, _), (39, _), (38, _), (37, _), (36, _), (35, _), (34, _), (33, _), (32, _), (31, _), (30, _), (29, _), (28, _), (27, _), (26, _), (1, _), (2, _), (3, _), (4, _), (5, _), (6, _)]) rfl ?_
            refine xa_effect (by kernel_rfl) 36 rfl rfl (by kernel_rfl) [] (by kernel_rfl) rfl (pp' := []) (pl' := []) (hid := []) rfl rfl rfl ?_
            refine xo_guard_yes rfl rfl rfl ?_ rfl
            refine xo_freezeBlk (q := 1) rfl (fun m_b61 hle_b61 hm_b61 => ?_)
            replace hm := hm.mono hle_b61
            try replace hs66 := hs66.mono hle_b61
            dsimp only [List.eraseIdx]
            refine xo_call0 rfl cl26 (vs := [_]) rfl (Max_spec _ _ _ (LvsS.of2 hm_b61 (hu _) (hv _))) (fun v62 m62 _ hle62 hq62 => ?_)
            obtain ⟨c62, rfl, hs62⟩ := hq62
            have hs62' := hs62
            obtain ⟨k62, n62, l62, a62, cap62, heq62, rfl, -, -, -, -⟩ := hs62'.open
            replace hm := hm.mono hle62
            try replace hs66 := hs66.mono hle62
            refine xo_nil ⟨⟨_, rfl⟩, fun _ hp => (by cases hp), ?_⟩
            refine xa_env (ρ' := [(62, _), (65, _), (64, _), (63, _), (61, _), (60, _), (59, _), (58, _), (57, _), (56, _), (55, _), (54, _), (53, _), (52, _), (51, _), (50, _), (49, _), (48, _), (47, _), (46, _), (44, _), (45, _), (43, _), (42, _), (41, _), (40, _), (39, _), (38, _), (37, _), (36, _), (35, _), (34, _), (33, _), (32, _), (31, _), (30, _), (29, _), (28, _), (27, _), (26, _), (1, _), (2, _), (3, _), (4, _), (5, _), (6, _)]) rfl ?_
            refine xa_effect (by kernel_rfl) 40 rfl rfl (by kernel_rfl) [] (by kernel_rfl) rfl (pp' := []) (pl' := []) (hid := []) rfl rfl rfl ?_
            refine xo_guard_yes rfl rfl rfl ?_ rfl
            refine xo_freezeBlk (q := 0) rfl (fun m_b65 hle_b65 hm_b65 => ?_)
            replace hm := hm.mono hle_b65
            try replace hs62 := hs62.mono hle_b65
            dsimp only [List.eraseIdx]
            refine xo_call0 rfl cl26 (vs := [_]) rfl (Max_spec _ _ _ (LvsS.of2 hm_b65 (hv _) (hu _))) (fun v66 m66 _ hle66 hq66 => ?_)
            obtain ⟨c66, rfl, hs66⟩ := hq66
            have hs66' := hs66
            obtain ⟨k66, n66, l66, a66, cap66, heq66, rfl, -, -, -, -⟩ := hs66'.open
            replace hm := hm.mono hle66
            try replace hs62 := hs62.mono hle66
            refine xo_nil ⟨⟨_, rfl⟩, fun _ hp => (by cases hp), ?_⟩
            refine xa_env (ρ' := [(66, _), (62, _), (65, _), (64, _), (63, _), (61, _), (60, _), (59, _), (58, _), (57, _), (56, _), (55, _), (54, _), (53, _), (52, _), (51, _), (50, _), (49, _), (48, _), (47, _), (46, _), (44, _), (45, _), (43, _), (42, _), (41, _), (40, _), (39, _), (38, _), (37, _), (36, _), (35, _), (34, _), (33, _), (32, _), (31, _), (30, _), (29, _), (28, _), (27, _), (26, _), (1, _), (2, _), (3, _), (4, _), (5, _), (6, _)]) rfl ?_
            refine xa_effect (by kernel_rfl) 41 rfl rfl (by kernel_rfl) [] (by kernel_rfl) rfl (pp' := []) (pl' := []) (hid := []) rfl rfl rfl ?_
            refine xo_guard_yes rfl rfl rfl ?_ rfl
            refine xo_callS rfl cl18 (vs := [_, _]) rfl (Same_is hs62 hs66 alive7) ?_
            refine xo_nil ⟨⟨_, rfl⟩, fun _ hp => (by cases hp), ?_⟩
            refine xa_env (ρ' := [(67, _), (66, _), (62, _), (65, _), (64, _), (63, _), (61, _), (60, _), (59, _), (58, _), (57, _), (56, _), (55, _), (54, _), (53, _), (52, _), (51, _), (50, _), (49, _), (48, _), (47, _), (46, _), (44, _), (45, _), (43, _), (42, _), (41, _), (40, _), (39, _), (38, _), (37, _), (36, _), (35, _), (34, _), (33, _), (32, _), (31, _), (30, _), (29, _), (28, _), (27, _), (26, _), (1, _), (2, _), (3, _), (4, _), (5, _), (6, _)]) rfl ?_
            refine xa_p (by kernel_rfl) 42 68 [58, 67] rfl rfl rfl rfl rfl rfl rfl (pv_none (rn_pick_t rfl rfl rfl)) ?_
            refine xa_p (by kernel_rfl) 43 69 [68] rfl rfl rfl rfl rfl rfl rfl (pv_none (rn_move rfl)) ?_
            refine xa_l (by kernel_rfl) 44 70 [1, 69] rfl rfl rfl rfl rfl rfl rfl (pvl_run rfl rfl rfl (rl_own (q := 4) (v := .agg #[_, _, _]) tk24 rfl rfl rfl)) ?_
            refine xa_effect (by kernel_rfl) 45 rfl rfl (by kernel_rfl) [43, 42, 41, 32, 36, 40, 31, 29, 35, 39, 27, 30, 28, 33, 34, 37, 38, 26, 25, 23, 24, 22, 20, 17, 21, 18, 19, 16, 14, 12, 15, 13, 11, 9, 6, 10, 7, 8, 5, 4, 1, 2, 3, 0] (by kernel_rfl) rfl (pp' := []) (pl' := [_]) (hid := [70]) rfl rfl rfl ?_
            refine xo_guard_yes rfl rfl rfl ?_ rfl
            refine xo_callS rfl cl12 (vs := [_]) rfl (Num_spec _ _) ?_
            refine xo_nil ⟨⟨_, rfl⟩, List.forall_mem_cons.2 ⟨pvl_run rfl rfl rfl (rl_own (q := 4) (v := .agg #[_, _, _]) tk24 rfl rfl rfl), fun _ hp => (by cases hp)⟩, ?_⟩
            refine xa_env (ρ' := [(70, _), (71, _), (69, _), (68, _), (67, _), (66, _), (62, _), (65, _), (64, _), (63, _), (61, _), (60, _), (59, _), (58, _), (57, _), (56, _), (55, _), (54, _), (53, _), (52, _), (51, _), (50, _), (49, _), (48, _), (47, _), (46, _), (44, _), (45, _), (43, _), (42, _), (41, _), (40, _), (39, _), (38, _), (37, _), (36, _), (35, _), (34, _), (33, _), (32, _), (31, _), (30, _), (29, _), (28, _), (27, _), (26, _), (1, _), (2, _), (3, _), (4, _), (5, _), (6, _)]) rfl ?_
            refine xa_effect (by kernel_rfl) 46 rfl rfl (by kernel_rfl) [44, 45, 43, 42, 41, 32, 36, 40, 31, 29, 35, 39, 27, 30, 28, 33, 34, 37, 38, 26, 25, 23, 24, 22, 20, 17, 21, 18, 19, 16, 14, 12, 15, 13, 11, 9, 6, 10, 7, 8, 5, 4, 1, 2, 3, 0] (by kernel_rfl) rfl (pp' := []) (pl' := []) (hid := []) rfl rfl rfl ?_
            refine xo_guard_yes rfl rfl rfl ?_ rfl
            refine xo_call0 rfl cl27 (vs := [_, _]) rfl (IMax_spec _ _ _ _ _ (hu _) (h0 _)) (fun v72 m72 _ hle72 hq72 => ?_)
            obtain ⟨c72, rfl, hs72⟩ := hq72
            have hs72' := hs72
            obtain ⟨k72, n72, l72, a72, cap72, heq72, rfl, -, -, -, -⟩ := hs72'.open
            replace hm := hm.mono hle72
            refine xo_nil ⟨⟨_, rfl⟩, fun _ hp => (by cases hp), ?_⟩
            refine xa_env (ρ' := [(72, _), (70, _), (71, _), (69, _), (68, _), (67, _), (66, _), (62, _), (65, _), (64, _), (63, _), (61, _), (60, _), (59, _), (58, _), (57, _), (56, _), (55, _), (54, _), (53, _), (52, _), (51, _), (50, _), (49, _), (48, _), (47, _), (46, _), (44, _), (45, _), (43, _), (42, _), (41, _), (40, _), (39, _), (38, _), (37, _), (36, _), (35, _), (34, _), (33, _), (32, _), (31, _), (30, _), (29, _), (28, _), (27, _), (26, _), (1, _), (2, _), (3, _), (4, _), (5, _), (6, _)]) rfl ?_
            refine xa_effect (by kernel_rfl) 47 rfl rfl (by kernel_rfl) [] (by kernel_rfl) rfl (pp' := []) (pl' := []) (hid := []) rfl rfl rfl ?_
            refine xo_guard_yes rfl rfl rfl ?_ rfl
            refine xo_callS rfl cl19 (vs := [_]) rfl (Zero_is hs72 alive8) ?_
            refine xo_nil ⟨⟨_, rfl⟩, fun _ hp => (by cases hp), ?_⟩
            refine xa_env (ρ' := [(73, _), (72, _), (70, _), (71, _), (69, _), (68, _), (67, _), (66, _), (62, _), (65, _), (64, _), (63, _), (61, _), (60, _), (59, _), (58, _), (57, _), (56, _), (55, _), (54, _), (53, _), (52, _), (51, _), (50, _), (49, _), (48, _), (47, _), (46, _), (44, _), (45, _), (43, _), (42, _), (41, _), (40, _), (39, _), (38, _), (37, _), (36, _), (35, _), (34, _), (33, _), (32, _), (31, _), (30, _), (29, _), (28, _), (27, _), (26, _), (1, _), (2, _), (3, _), (4, _), (5, _), (6, _)]) rfl ?_
            refine xa_p (by kernel_rfl) 48 74 [69, 73] rfl rfl rfl rfl rfl rfl rfl (pv_none (rn_pick_t rfl rfl rfl)) ?_
            refine xa_p (by kernel_rfl) 49 75 [74] rfl rfl rfl rfl rfl rfl rfl (pv_none (rn_move rfl)) ?_
            refine xa_l (by kernel_rfl) 50 76 [1, 75] rfl rfl rfl rfl rfl rfl rfl (pvl_run rfl rfl rfl (rl_own (q := 4) (v := .agg #[_, _, _]) tk24 rfl rfl rfl)) ?_
            refine xa_effect (by kernel_rfl) 51 rfl rfl (by kernel_rfl) [50, 49, 48, 47, 43, 46, 42, 41, 44, 45, 32, 36, 40, 31, 29, 35, 39, 27, 30, 28, 33, 34, 37, 38, 26, 25, 23, 24, 22, 20, 17, 21, 18, 19, 16, 14, 12, 15, 13, 11, 9, 6, 10, 7, 8, 5, 4, 1, 2, 3, 0] (by kernel_rfl) rfl (pp' := []) (pl' := []) (hid := []) rfl rfl rfl ?_
            refine xo_guard_yes rfl rfl rfl ?_ rfl
            refine xo_call0 rfl cl28 (vs := [_]) rfl (Succ_spec _ _ _ (hu _)) (fun v77 m77 _ hle77 hq77 => ?_)
            obtain ⟨c77, rfl, hs77⟩ := hq77
            have hs77' := hs77
            obtain ⟨k77, n77, l77, a77, cap77, heq77, rfl, -, -, -, -⟩ := hs77'.open
            replace hm := hm.mono hle77
            refine xo_nil ⟨⟨_, rfl⟩, fun _ hp => (by cases hp), ?_⟩
            refine xa_env (ρ' := [(77, _), (76, _), (75, _), (74, _), (73, _), (72, _), (70, _), (71, _), (69, _), (68, _), (67, _), (66, _), (62, _), (65, _), (64, _), (63, _), (61, _), (60, _), (59, _), (58, _), (57, _), (56, _), (55, _), (54, _), (53, _), (52, _), (51, _), (50, _), (49, _), (48, _), (47, _), (46, _), (44, _), (45, _), (43, _), (42, _), (41, _), (40, _), (39, _), (38, _), (37, _), (36, _), (35, _), (34, _), (33, _), (32, _), (31, _), (30, _), (29, _), (28, _), (27, _), (26, _), (1, _), (2, _), (3, _), (4, _), (5, _), (6, _)]) rfl ?_
            refine xa_effect (by kernel_rfl) 52 rfl rfl (by kernel_rfl) [] (by kernel_rfl) rfl (pp' := []) (pl' := []) (hid := []) rfl rfl rfl ?_
            refine xo_guard_yes rfl rfl rfl ?_ rfl
            refine xo_callS rfl cl20 (vs := [_]) rfl (Never_is hs77 alive9) ?_
            refine xo_nil ⟨⟨_, rfl⟩, fun _ hp => (by cases hp), ?_⟩
            refine xa_env (ρ' := [(78, _), (77, _), (76, _), (75, _), (74, _), (73, _), (72, _), (70, _), (71, _), (69, _), (68, _), (67, _), (66, _), (62, _), (65, _), (64, _), (63, _), (61, _), (60, _), (59, _), (58, _), (57, _), (56, _), (55, _), (54, _), (53, _), (52, _), (51, _), (50, _), (49, _), (48, _), (47, _), (46, _), (44, _), (45, _), (43, _), (42, _), (41, _), (40, _), (39, _), (38, _), (37, _), (36, _), (35, _), (34, _), (33, _), (32, _), (31, _), (30, _), (29, _), (28, _), (27, _), (26, _), (1, _), (2, _), (3, _), (4, _), (5, _), (6, _)]) rfl ?_
            refine xa_p (by kernel_rfl) 53 79 [75, 78] rfl rfl rfl rfl rfl rfl rfl (pv_none (rn_pick_t rfl rfl rfl)) ?_
            refine xa_p (by kernel_rfl) 54 80 [79] rfl rfl rfl rfl rfl rfl rfl (pv_none (rn_move rfl)) ?_
            refine xa_l (by kernel_rfl) 55 81 [4, 80] rfl rfl rfl rfl rfl rfl rfl (pvl_run rfl rfl rfl (rl_own (q := 1) (v := .agg #[_, _, _]) tk24 rfl rfl rfl)) ?_
            refine xa_effect (by kernel_rfl) 56 rfl rfl (by kernel_rfl) [55, 54, 53, 52, 49, 51, 48, 47, 50, 43, 46, 42, 41, 44, 45, 32, 36, 40, 31, 29, 35, 39, 27, 30, 28, 33, 34, 37, 38, 26, 25, 23, 24, 22, 20, 17, 21, 18, 19, 16, 14, 12, 15, 13, 11, 9, 6, 10, 7, 8, 5, 4, 1, 2, 3, 0] (by kernel_rfl) rfl (pp' := []) (pl' := []) (hid := []) rfl rfl rfl ?_
            refine xo_guard_yes rfl rfl rfl ?_ rfl
            refine xo_callS rfl cl21 (vs := [_]) rfl (Nodes_is hm alive10) ?_
            refine xo_nil ⟨⟨_, rfl⟩, fun _ hp => (by cases hp), ?_⟩
            refine xa_env (ρ' := [(82, _), (81, _), (80, _), (79, _), (78, _), (77, _), (76, _), (75, _), (74, _), (73, _), (72, _), (70, _), (71, _), (69, _), (68, _), (67, _), (66, _), (62, _), (65, _), (64, _), (63, _), (61, _), (60, _), (59, _), (58, _), (57, _), (56, _), (55, _), (54, _), (53, _), (52, _), (51, _), (50, _), (49, _), (48, _), (47, _), (46, _), (44, _), (45, _), (43, _), (42, _), (41, _), (40, _), (39, _), (38, _), (37, _), (36, _), (35, _), (34, _), (33, _), (32, _), (31, _), (30, _), (29, _), (28, _), (27, _), (26, _), (1, _), (2, _), (3, _), (4, _), (5, _), (6, _)]) rfl ?_
            refine xa_p (by kernel_rfl) 57 83 [82, 80] rfl rfl rfl rfl rfl rfl rfl (pv_run rfl rfl rfl ((rn_eql (i := 4) (j := 4) rfl rfl : Rn _ _ _ _ (.bool true)))) ?_
            refine xa_p (by kernel_rfl) 58 84 [80, 83] rfl rfl rfl rfl rfl rfl rfl (pv_none (rn_pick_t rfl rfl rfl)) ?_
            refine xa_p (by kernel_rfl) 59 0 [84] rfl rfl rfl rfl rfl rfl rfl (pv_none (rn_assign rfl)) ?_
            refine xa_end (by kernel_rfl) rfl (kseq_normal ?_)
            refine x_ret ?_
            refine ⟨rfl, [_], .cons (.tmp rfl) (.nil), fin_drop (μ' := []) (List.nil_sublist _) (fin_done (ret_tup1 ?_))⟩
            rfl
        · refine xo_guard_yes rfl rfl rfl ?_ rfl
          refine xo_buildSlice (pv := [(_, _), (_, _)]) (zs := [_, _, _, _, _, _]) (cs := [_, _, _, _, _, _]) rfl tsl22 tz24 rfl rfl rfl rfl (fun b65 => ?_)
          refine xo_nil ⟨⟨_, rfl⟩, List.forall_mem_cons.2 ⟨pvl_run rfl rfl rfl (rl_own (q := 4) (v := .agg #[_, _, _]) tk24 rfl rfl rfl),  List.forall_mem_cons.2 ⟨pvl_run rfl rfl rfl (rl_own (q := 5) (v := .agg #[_, _, _]) tk24 rfl rfl rfl), fun _ hp => (by cases hp)⟩⟩, ?_⟩
          refine xa_env (ρ' := [(60, _), (59, _), (65, _), (64, _), (63, _), (58, _), (57, _), (56, _), (55, _), (54, _), (53, _), (52, _), (51, _), (50, _), (49, _), (48, _), (47, _), (46, _), (44, _), (45, _), (43, _), (42, _), (41, _), (40, _), (39, _), (38, _), (37, _), (36, _), (35, _), (34, _), (33, _), (32, _), (31, _), (30, _), (29, _), (28, _), (27, _), (26, _), (1, _), (2, _), (3, _), (4, _), (5, _), (6, _)]) rfl ?_
          refine xa_effect (by kernel_rfl) 35 rfl rfl (by kernel_rfl) [33, 34, 32, 31, 29, 27, 30, 28, 26, 25, 23, 24, 22, 20, 17, 21, 18, 19, 16, 14, 12, 15, 13, 11, 9, 6, 10, 7, 8, 5, 4, 1, 2, 3, 0] (by kernel_rfl) rfl (pp' := []) (pl' := []) (hid := []) rfl rfl rfl ?_
          refine xo_guard_yes rfl rfl rfl ?_ rfl
          refine xo_buildSlice (pv := [(_, _), (_, _)]) (zs := [_, _, _, _, _, _]) (cs := [_, _, _, _, _, _]) rfl tsl22 tz24 rfl rfl rfl rfl (fun b61 => ?_)
          refine xo_nil ⟨⟨_, rfl⟩, fun _ hp => (by cases hp), ?_⟩
          refine xa_env (ρ' := [(61, _), (60, _), (59, _), (65, _), (64, _), (63, _), (58, _), (57, _), (56, _), (55, _), (54, _), (53, _), (52, _), (51, _), (50, _), (49, _), (48, _), (47, _), (46, _), (44, _), (45, _), (43, _), (42, _), (41, _), (40, _), (39, _), (38, _), (37, _), (36, _), (35, _), (34, _), (33, _), (32, _), (31, _), (30, _), (29, _), (28, _), (27, _), (26, _), (1, _), (2, _), (3, _), (4, _), (5, _), (6, _)]) rfl ?_
          refine xa_effect (by kernel_rfl) 36 rfl rfl (by kernel_rfl) [] (by kernel_rfl) rfl (pp' := []) (pl' := []) (hid := []) rfl rfl rfl ?_
          refine xo_guard_yes rfl rfl rfl ?_ rfl
          refine xo_freezeBlk (q := 0) rfl (fun m_b61 hle_b61 hm_b61 => ?_)
          replace hm := hm.mono hle_b61
          try replace hs66 := hs66.mono hle_b61
          dsimp only [List.eraseIdx]
          refine xo_call0 rfl cl26 (vs := [_]) rfl (Max_spec _ _ _ (LvsS.of2 hm_b61 (hu _) (hv _))) (fun v62 m62 _ hle62 hq62 => ?_)
          obtain ⟨c62, rfl, hs62⟩ := hq62
          have hs62' := hs62
          obtain ⟨k62, n62, l62, a62, cap62, heq62, rfl, -, -, -, -⟩ := hs62'.open
          replace hm := hm.mono hle62
          try replace hs66 := hs66.mono hle62
          refine xo_nil ⟨⟨_, rfl⟩, fun _ hp => (by cases hp), ?_⟩
          refine xa_env (ρ' := [(62, _), (61, _), (60, _), (59, _), (65, _), (64, _), (63, _), (58, _), (57, _), (56, _), (55, _), (54, _), (53, _), (52, _), (51, _), (50, _), (49, _), (48, _), (47, _), (46, _), (44, _), (45, _), (43, _), (42, _), (41, _), (40, _), (39, _), (38, _), (37, _), (36, _), (35, _), (34, _), (33, _), (32, _), (31, _), (30, _), (29, _), (28, _), (27, _), (26, _), (1, _), (2, _), (3, _), (4, _), (5, _), (6, _)]) rfl ?_
          refine xa_effect (by kernel_rfl) 40 rfl rfl (by kernel_rfl) [] (by kernel_rfl) rfl (pp' := []) (pl' := []) (hid := []) rfl rfl rfl ?_
          refine xo_guard_yes rfl rfl rfl ?_ rfl
          refine xo_freezeBlk (q := 0) rfl (fun m_b65 hle_b65 hm_b65 => ?_)
          replace hm := hm.mono hle_b65
          try replace hs62 := hs62.mono hle_b65
          dsimp only [List.eraseIdx]
          refine xo_call0 rfl cl26 (vs := [_]) rfl (Max_spec _ _ _ (LvsS.of2 hm_b65 (hv _) (hu _))) (fun v66 m66 _ hle66 hq66 => ?_)
          obtain ⟨c66, rfl, hs66⟩ := hq66
          have hs66' := hs66
          obtain ⟨k66, n66, l66, a66, cap66, heq66, rfl, -, -, -, -⟩ := hs66'.open
          replace hm := hm.mono hle66
          try replace hs62 := hs62.mono hle66
          refine xo_nil ⟨⟨_, rfl⟩, fun _ hp => (by cases hp), ?_⟩
          refine xa_env (ρ' := [(66, _), (62, _), (61, _), (60, _), (59, _), (65, _), (64, _), (63, _), (58, _), (57, _), (56, _), (55, _), (54, _), (53, _), (52, _), (51, _), (50, _), (49, _), (48, _), (47, _), (46, _), (44, _), (45, _), (43, _), (42, _), (41, _), (40, _), (39, _), (38, _), (37, _), (36, _), (35, _), (34, _), (33, _), (32, _), (31, _), (30, _), (29, _), (28, _), (27, _), (26, _), (1, _), (2, _), (3, _), (4, _), (5, _), (6, _)]) rfl ?_
          refine xa_effect (by kernel_rfl) 41 rfl rfl (by kernel_rfl) [] (by kernel_rfl) rfl (pp' := []) (pl' := []) (hid := []) rfl rfl rfl ?_
          refine xo_guard_yes rfl rfl rfl ?_ rfl
          refine xo_callS rfl cl18 (vs := [_, _]) rfl (Same_is hs62 hs66 alive7) ?_
          refine xo_nil ⟨⟨_, rfl⟩, fun _ hp => (by cases hp), ?_⟩
          refine xa_env (ρ' := [(67, _), (66, _), (62, _), (61, _), (60, _), (59, _), (65, _), (64, _), (63, _), (58, _), (57, _), (56, _), (55, _), (54, _), (53, _), (52, _), (51, _), (50, _), (49, _), (48, _), (47, _), (46, _), (44, _), (45, _), (43, _), (42, _), (41, _), (40, _), (39, _), (38, _), (37, _), (36, _), (35, _), (34, _), (33, _), (32, _), (31, _), (30, _), (29, _), (28, _), (27, _), (26, _), (1, _), (2, _), (3, _), (4, _), (5, _), (6, _)]) rfl ?_
          refine xa_p (by kernel_rfl) 42 68 [58, 67] rfl rfl rfl rfl rfl rfl rfl (pv_none (rn_pick_t rfl rfl rfl)) ?_
          refine xa_p (by kernel_rfl) 43 69 [68] rfl rfl rfl rfl rfl rfl rfl (pv_none (rn_move rfl)) ?_
          refine xa_l (by kernel_rfl) 44 70 [1, 69] rfl rfl rfl rfl rfl rfl rfl (pvl_run rfl rfl rfl (rl_own (q := 4) (v := .agg #[_, _, _]) tk24 rfl rfl rfl)) ?_
          refine xa_effect (by kernel_rfl) 45 rfl rfl (by kernel_rfl) [43, 42, 41, 32, 36, 40, 31, 29, 35, 39, 27, 30, 28, 33, 34, 37, 38, 26, 25, 23, 24, 22, 20, 17, 21, 18, 19, 16, 14, 12, 15, 13, 11, 9, 6, 10, 7, 8, 5, 4, 1, 2, 3, 0] (by kernel_rfl) rfl (pp' := []) (pl' := [_]) (hid := [70]) rfl rfl rfl ?_
          refine xo_guard_yes rfl rfl rfl ?_ rfl
          refine xo_callS rfl cl12 (vs := [_]) rfl (Num_spec _ _) ?_
          refine xo_nil ⟨⟨_, rfl⟩, List.forall_mem_cons.2 ⟨pvl_run rfl rfl rfl (rl_own (q := 4) (v := .agg #[_, _, _]) tk24 rfl rfl rfl), fun _ hp => (by cases hp)⟩, ?_⟩
          refine xa_env (ρ' := [(70, _), (71, _), (69, _), (68, _), (67, _), (66, _), (62, _), (61, _), (60, _), (59, _), (65, _), (64, _), (63, _), (58, _), (57, _), (56, _), (55, _), (54, _), (53, _), (52, _), (51, _), (50, _), (49, _), (48, _), (47, _), (46, _), (44, _), (45, _), (43, _), (42, _), (41, _), (40, _), (39, _), (38, _), (37, _), (36, _), (35, _), (34, _), (33, _), (32, _), (31, _), (30, _), (29, _), (28, _), (27, _), (26, _), (1, _), (2, _), (3, _), (4, _), (5, _), (6, _)]) rfl ?_
          refine xa_effect (by kernel_rfl) 46 rfl rfl (by kernel_rfl) [44, 45, 43, 42, 41, 32, 36, 40, 31, 29, 35, 39, 27, 30, 28, 33, 34, 37, 38, 26, 25, 23, 24, 22, 20, 17, 21, 18, 19, 16, 14, 12, 15, 13, 11, 9, 6, 10, 7, 8, 5, 4, 1, 2, 3, 0] (by kernel_rfl) rfl (pp' := []) (pl' := []) (hid := []) rfl rfl rfl ?_
          refine xo_guard_yes rfl rfl rfl ?_ rfl
          refine xo_call0 rfl cl27 (vs := [_, _]) rfl (IMax_spec _ _ _ _ _ (hu _) (h0 _)) (fun v72 m72 _ hle72 hq72 => ?_)
          obtain ⟨c72, rfl, hs72⟩ := hq72
          have hs72' := hs72
          obtain ⟨k72, n72, l72, a72, cap72, heq72, rfl, -, -, -, -⟩ := hs72'.open
          replace hm := hm.mono hle72
          refine xo_nil ⟨⟨_, rfl⟩, fun _ hp => (by cases hp), ?_⟩
          refine xa_env (ρ' := [(72, _), (70, _), (71, _), (69, _), (68, _), (67, _), (66, _), (62, _), (61, _), (60, _), (59, _), (65, _), (64, _), (63, _), (58, _), (57, _), (56, _), (55, _), (54, _), (53, _), (52, _), (51, _), (50, _), (49, _), (48, _), (47, _), (46, _), (44, _), (45, _), (43, _), (42, _), (41, _), (40, _), (39, _), (38, _), (37, _), (36, _), (35, _), (34, _), (33, _), (32, _), (31, _), (30, _), (29, _), (28, _), (27, _), (26, _), (1, _), (2, _), (3, _), (4, _), (5, _), (6, _)]) rfl ?_
          refine xa_effect (by kernel_rfl) 47 rfl rfl (by kernel_rfl) [] (by kernel_rfl) rfl (pp' := []) (pl' := []) (hid := []) rfl rfl rfl ?_
          refine xo_guard_yes rfl rfl rfl ?_ rfl
          refine xo_callS rfl cl19 (vs := [_]) rfl (Zero_is hs72 alive8) ?_
          refine xo_nil ⟨⟨_, rfl⟩, fun _ hp => (by cases hp), ?_⟩
          refine xa_env (ρ' := [(73, _), (72, _), (70, _), (71, _), (69, _), (68, _), (67, _), (66, _), (62, _), (61, _), (60, _), (59, _), (65, _), (64, _), (63, _), (58, _), (57, _), (56, _), (55, _), (54, _), (53, _), (52, _), (51, _), (50, _), (49, _), (48, _), (47, _), (46, _), (44, _), (45, _), (43, _), (42, _), (41, _), (40, _), (39, _), (38, _), (37, _), (36, _), (35, _), (34, _), (33, _), (32, _), (31, _), (30, _), (29, _), (28, _), (27, _), (26, _), (1, _), (2, _), (3, _), (4, _), (5, _), (6, _)]) rfl ?_
          refine xa_p (by kernel_rfl) 48 74 [69, 73] rfl rfl rfl rfl rfl rfl rfl (pv_none (rn_pick_t rfl rfl rfl)) ?_
          refine xa_p (by kernel_rfl) 49 75 [74] rfl rfl rfl rfl rfl rfl rfl (pv_none (rn_move rfl)) ?_
          refine xa_l (by kernel_rfl) 50 76 [1, 75] rfl rfl rfl rfl rfl rfl rfl (pvl_run rfl rfl rfl (rl_own (q := 4) (v := .agg #[_, _, _]) tk24 rfl rfl rfl)) ?_
          refine xa_effect (by kernel_rfl) 51 rfl rfl (by kernel_rfl) [50, 49, 48, 47, 43, 46, 42, 41, 44, 45, 32, 36, 40, 31, 29, 35, 39, 27, 30, 28, 33, 34, 37, 38, 26, 25, 23, 24, 22, 20, 17, 21, 18, 19, 16, 14, 12, 15, 13, 11, 9, 6, 10, 7, 8, 5, 4, 1, 2, 3, 0] (by kernel_rfl) rfl (pp' := []) (pl' := []) (hid := []) rfl rfl rfl ?_
          refine xo_guard_yes rfl rfl rfl ?_ rfl
          refine xo_call0 rfl cl28 (vs := [_]) rfl (Succ_spec _ _ _ (hu _)) (fun v77 m77 _ hle77 hq77 => ?_)
          obtain ⟨c77, rfl, hs77⟩ := hq77
          have hs77' := hs77
          obtain ⟨k77, n77, l77, a77, cap77, heq77, rfl, -, -, -, -⟩ := hs77'.open
          replace hm := hm.mono hle77
          refine xo_nil ⟨⟨_, rfl⟩, fun _ hp => (by cases hp), ?_⟩
          refine xa_env (ρ' := [(77, _), (76, _), (75, _), (74, _), (73, _), (72, _), (70, _), (71, _), (69, _), (68, _), (67, _), (66, _), (62, _), (61, _), (60, _), (59, _), (65, _), (64, _), (63, _), (58, _), (57, _), (56, _), (55, _), (54, _), (53, _), (52, _), (51, _), (50, _), (49, _), (48, _), (47, _), (46, _), (44, _), (45, _), (43, _), (42, _), (41, _), (40, _), (39, _), (38, _), (37, _), (36, _), (35, _), (34, _), (33, _), (32, _), (31, _), (30, _), (29, _), (28, _), (27, _), (26, _), (1, _), (2, _), (3, _), (4, _), (5, _), (6, _)]) rfl ?_
          refine xa_effect (by kernel_rfl) 52 rfl rfl (by kernel_rfl) [] (by kernel_rfl) rfl (pp' := []) (pl' := []) (hid := []) rfl rfl rfl ?_
          refine xo_guard_yes rfl rfl rfl ?_ rfl
          refine xo_callS rfl cl20 (vs := [_]) rfl (Never_is hs77 alive9) ?_
          refine xo_nil ⟨⟨_, rfl⟩, fun _ hp => (by cases hp), ?_⟩
          refine xa_env (ρ' := [(78, _), (77, _), (76, _), (75, _), (74, _), (73, _), (72, _), (70, _), (71, _), (69, _), (68, _), (67, _), (66, _), (62, _), (61, _), (60, _), (59, _), (65, _), (64, _), (63, _), (58, _), (57, _), (56, _), (55, _), (54, _), (53, _), (52, _), (51, _), (50, _), (49, _), (48, _), (47, _), (46, _), (44, _), (45, _), (43, _), (42, _), (41, _), (40, _), (39, _), (38, _), (37, _), (36, _), (35, _), (34, _), (33, _), (32, _), (31, _), (30, _), (29, _), (28, _), (27, _), (26, _), (1, _), (2, _), (3, _), (4, _), (5, _), (6, _)]) rfl ?_
          refine xa_p (by kernel_rfl) 53 79 [75, 78] rfl rfl rfl rfl rfl rfl rfl (pv_none (rn_pick_t rfl rfl rfl)) ?_
          refine xa_p (by kernel_rfl) 54 80 [79] rfl rfl rfl rfl rfl rfl rfl (pv_none (rn_move rfl)) ?_
          refine xa_l (by kernel_rfl) 55 81 [4, 80] rfl rfl rfl rfl rfl rfl rfl (pvl_run rfl rfl rfl (rl_own (q := 1) (v := .agg #[_, _, _]) tk24 rfl rfl rfl)) ?_
          refine xa_effect (by kernel_rfl) 56 rfl rfl (by kernel_rfl) [55, 54, 53, 52, 49, 51, 48, 47, 50, 43, 46, 42, 41, 44, 45, 32, 36, 40, 31, 29, 35, 39, 27, 30, 28, 33, 34, 37, 38, 26, 25, 23, 24, 22, 20, 17, 21, 18, 19, 16, 14, 12, 15, 13, 11, 9, 6, 10, 7, 8, 5, 4, 1, 2, 3, 0] (by kernel_rfl) rfl (pp' := []) (pl' := []) (hid := []) rfl rfl rfl ?_
          refine xo_guard_yes rfl rfl rfl ?_ rfl
          refine xo_callS rfl cl21 (vs := [_]) rfl (Nodes_is hm alive10) ?_
          refine xo_nil ⟨⟨_, rfl⟩, fun _ hp => (by cases hp), ?_⟩
          refine xa_env (ρ' := [(82, _), (81, _), (80, _), (79, _), (78, _), (77, _), (76, _), (75, _), (74, _), (73, _), (72, _), (70, _), (71, _), (69, _), (68, _), (67, _), (66, _), (62, _), (61, _), (60, _), (59, _), (65, _), (64, _), (63, _), (58, _), (57, _), (56, _), (55, _), (54, _), (53, _), (52, _), (51, _), (50, _), (49, _), (48, _), (47, _), (46, _), (44, _), (45, _), (43, _), (42, _), (41, _), (40, _), (39, _), (38, _), (37, _), (36, _), (35, _), (34, _), (33, _), (32, _), (31, _), (30, _), (29, _), (28, _), (27, _), (26, _), (1, _), (2, _), (3, _), (4, _), (5, _), (6, _)]) rfl ?_
          refine xa_p (by kernel_rfl) 57 83 [82, 80] rfl rfl rfl rfl rfl rfl rfl (pv_run rfl rfl rfl ((rn_eql (i := 4) (j := 4) rfl rfl : Rn _ _ _ _ (.bool true)))) ?_
          refine xa_p (by kernel_rfl) 58 84 [80, 83] rfl rfl rfl rfl rfl rfl rfl (pv_none (rn_pick_t rfl rfl rfl)) ?_
          refine xa_p (by kernel_rfl) 59 0 [84] rfl rfl rfl rfl rfl rfl rfl (pv_none (rn_assign rfl)) ?_
          refine xa_end (by kernel_rfl) rfl (kseq_normal ?_)
          refine x_ret ?_
          refine ⟨rfl, [_], .cons (.tmp rfl) (.nil), fin_drop (μ' := []) (List.nil_sublist _) (fin_done (ret_tup1 ?_))⟩
          rfl

theorem great_spec (l : Lv) (m : Mem) (cs : List Value) (hl : LvV m l cs) : Scal Try.prog 9 #[.agg cs.toArray] m (.bool (decide (300 < (sizeL l : Int)))) := by
  refine scal_of ?_
  have hl0 := hl
  obtain ⟨k, nn, ls, a, cap, rfl, rfl, hk, hn, hlen, hat⟩ := hl.open
  refine spec_body (vs := [_]) Try.func9 rfl Try.ntmps9 rfl (fun E => ?_)
  refine x_seq ?_
  refine x_region ?_
  refine xo_box rfl rfl (cs := [_, _, _]) rfl (fun b1 => ?_)
  refine xo_rn rfl (rn_assign rfl) ?_
  refine xo_nil (kseq_normal ?_)
  refine x_seq ?_
  refine x_region ?_
  refine xo_rl rfl (rl_own (q := 0) (v := .agg #[_, _, _]) tk24 rfl rfl rfl) ?_
  refine xo_callS rfl cl22 (vs := [_, _]) rfl (LevelNodes_spec _ _ _ _ hl0 (by omega) (by omega)) ?_
  refine xo_rn rfl (rn_gtr rfl rfl) ?_
  refine xo_rn rfl (rn_assign rfl) ?_
  refine xo_nil (kseq_normal ?_)
  refine x_ret ?_
  refine ⟨rfl, [_], .cons (.tmp rfl) (.nil), fin_drop (μ' := []) (List.nil_sublist _) (fin_done (ret_tup1 ?_))⟩
  have h := lnF_eq (.mk k nn ls) 300 (by omega)
  have e : (decide (300 < lnF (.mk k nn ls) 300)) = decide (300 < (sizeL (.mk k nn ls) : Int)) := by
    rw [h, decide_eq_decide]
    omega
  exact congrArg Value.bool e

end Go.Proofs.Ytagilgmgacpffaa

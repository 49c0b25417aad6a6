/-
  Terms made anew with variables in constants' places. No statement of the seat.
-/
import Derived.Test.YtehhihdahalfeaaGreatDoorZUb
set_option linter.unusedVariables false
set_option linter.unusedSimpArgs false
set_option linter.unnecessarySimpa false
namespace Go.Proofs.YtehhihdahalfeaaGreatDoor
open Go Go.Am Go.Gw
set_option maxHeartbeats 4000000 in
set_option maxRecDepth 100000 in
theorem bldAbs_can (ns : List (List UInt8)) (ab : Bool) (az : Nat) (haz : az = 1 ∨ ns = []) (hla : ns.length ≤ 1048576) (t : Tm) : ∀ v, TmP t v → ∀ p kk d left : Int, allT t p kk = true → 0 ≤ kk → kk + depT t ≤ 2251799813685248 → 0 ≤ d → d + depT t ≤ 4194304 → -2001 ≤ left → left ≤ 2000 →
    Finds C1 116 [.bp 0 0, v, iv d] [.box 150 [absP ab az ns, iv left]] fun r st => r = .ret [encT (bldF (absF ns) t d left).1] ∧ st = [.box 150 [absP ab az ns, iv (bldF (absF ns) t d left).2]] := by
  induction t using Tm.ind with
  | _ k nn s ls ts ih =>
  intro v h p kk d left hall hk0 hk1 hd0 hd1 hl0 hl1
  have hW := TmP.w h
  obtain ⟨hk17, hlenk, hnode, -, hats⟩ := allT_parts hall
  have hn1 : 0 ≤ nn ∧ nn ≤ 2251799813685248 := by
    by_cases e : k = 1
    · have := nodeT_var hnode e
      omega
    · have : nn = 0 := nodeT_zero hnode e
      omega
  have hput := abs1_can ns ab az haz hla _ v h d hd0 (by omega) hn1
  have happ := App_can _ v h true 0
  obtain ⟨_, _, _, _, _, b, z, xs, c, y, ys, ⟨rfl, rfl, rfl, rfl, rfl⟩, rfl, hz, hxs, hlen, hbd, hy, hys, hlen2, hbd2, hsl⟩ := h.open
  rw [depT] at hk1 hd1
  cases hm : absF ns (.mk k nn s ls ts) d with
  | some x =>
    rw [hm] at hput
    obtain ⟨k9, n9, s9, b9, z9, x9, c9, y9, ys9, he9⟩ := encT_open x
    simp only [putV] at hput
    rw [he9] at hput
    refine run_intro Tryz.func116 rfl rfl rfl ?_
    repeat' ((conv => whnf) ; first | refine VIf.tt rfl ?_ | refine VIf.ff rfl ?_ | refine VIf.not ?_ | refine VIf.dtt (by assumption) ?_ | refine VIf.dff (by assumption) ?_ | refine VIf.dec (fun h => ?_) (fun h => ?_) | refine VIf.tt (by assumption) ?_ | refine VIf.ff (by assumption) ?_ | refine VIf.mk (fun h => ?_) (fun h => ?_) | refine VOk.mk rfl ?_ | refine VPur.mk rfl ?_ | refine VNat.mk _ rfl ?_ | refine VArith.fits (by unfold i64; omega) ?_ | refine vret_pf rfl ?_ | refine vret_take rfl rfl ?_ | refine finds_pf hput (fun _ => ?_) | refine VTch.mk _ rfl ?_)
    all_goals (try (conv => whnf))
    · rw [bldF, bldN_neg (by assumption)]
      exact ⟨rfl, rfl⟩
    · have e : bldF (absF ns) (.mk k nn s ls ts) d left = (x, left - nodesT x) := by rw [bldF, bldN_put (by assumption) hm]
      have hxT : TmP x (encT x) := absF_put hla _ d x hW ⟨p, kk, hall, hk0, by omega⟩ hd0 (by omega) hm
      have hnb := nodesT_bd x
      have hdn := done_can 92 [.cp [.sl ab az (svs ns)], .cp [iv (svs ns).length], .cp [movedP (svs ns).length 0]] rfl left (by omega) (by omega) x _ hxT
      rw [he9] at hdn
      refine vcall_st rfl rfl rfl rfl rfl rfl (Finds.mono hdn ?_)
      rintro _ _ ⟨rfl, rfl⟩
      refine vback rfl ?_
      repeat' ((conv => whnf) ; first | refine VIf.tt rfl ?_ | refine VIf.ff rfl ?_ | refine VIf.not ?_ | refine VIf.dtt (by assumption) ?_ | refine VIf.dff (by assumption) ?_ | refine VIf.dec (fun h => ?_) (fun h => ?_) | refine VIf.tt (by assumption) ?_ | refine VIf.ff (by assumption) ?_ | refine VIf.mk (fun h => ?_) (fun h => ?_) | refine VOk.mk rfl ?_ | refine VPur.mk rfl ?_ | refine VNat.mk _ rfl ?_ | refine VArith.fits (by unfold i64; omega) ?_ | refine vret_pf rfl ?_ | refine vret_take rfl rfl ?_ | refine VTch.mk _ rfl ?_)
      all_goals (try (conv => whnf))
      rw [e]
      exact ⟨by rw [he9]; rfl, rfl⟩
  | none =>
    rw [hm] at hput
    simp only [putV] at hput
    refine run_intro Tryz.func116 rfl rfl rfl ?_
    have hdn := done_can 92 [.cp [.sl ab az (svs ns)], .cp [iv (svs ns).length], .cp [movedP (svs ns).length 0]] rfl left (by omega) (by omega) _ _ (encT_ok _ _ h)
    have hnb := nodesT_bd (.mk k nn s ls ts)
    obtain ⟨k9, n9, s9, b9, z9, x9, c9, y9, ys9, he9⟩ := encT_open (.mk k nn s ls ts)
    rw [he9] at happ hdn
    repeat' ((conv => whnf) ; first | refine VIf.tt rfl ?_ | refine VIf.ff rfl ?_ | refine VIf.not ?_ | refine VIf.dtt (by assumption) ?_ | refine VIf.dff (by assumption) ?_ | refine VIf.dec (fun h => ?_) (fun h => ?_) | refine VIf.tt (by assumption) ?_ | refine VIf.ff (by assumption) ?_ | refine VIf.mk (fun h => ?_) (fun h => ?_) | refine VOk.mk rfl ?_ | refine VPur.mk rfl ?_ | refine VNat.mk _ rfl ?_ | refine VArith.fits (by unfold i64; omega) ?_ | refine vret_pf rfl ?_ | refine vret_take rfl rfl ?_ | refine finds_pf hput (fun _ => ?_) | refine vcall_pf happ rfl rfl ?_ | refine VTch.mk _ rfl ?_)
    all_goals (try (conv => whnf))
    · rw [bldF, bldN_neg (by assumption)]
      exact ⟨rfl, rfl⟩
    · have e : bldF (absF ns) (.mk k nn s ls ts) d left = (.mk k nn s ls ts, left - nodesT (.mk k nn s ls ts)) := by
        rw [bldF, bldN_leaf (by assumption) hm]
        show ts.length = 0
        omega
      refine vcall_st rfl rfl rfl rfl rfl rfl (Finds.mono hdn ?_)
      rintro _ _ ⟨rfl, rfl⟩
      refine vback rfl ?_
      repeat' ((conv => whnf) ; first | refine VIf.tt rfl ?_ | refine VIf.ff rfl ?_ | refine VIf.not ?_ | refine VIf.dtt (by assumption) ?_ | refine VIf.dff (by assumption) ?_ | refine VIf.dec (fun h => ?_) (fun h => ?_) | refine VIf.tt (by assumption) ?_ | refine VIf.ff (by assumption) ?_ | refine VIf.mk (fun h => ?_) (fun h => ?_) | refine VOk.mk rfl ?_ | refine VPur.mk rfl ?_ | refine VNat.mk _ rfl ?_ | refine VArith.fits (by unfold i64; omega) ?_ | refine vret_pf rfl ?_ | refine vret_take rfl rfl ?_ | refine VTch.mk _ rfl ?_)
      all_goals (try (conv => whnf))
      rw [e]
      exact ⟨by rw [he9]; rfl, rfl⟩
    · have hlen0 : ¬ ts.length = 0 := by omega
      have e : bldF (absF ns) (.mk k nn s ls ts) d left = (.mk k 0 [] [] (bldFs (absF ns) ts k 0 d (left - 1)).1, (bldFs (absF ns) ts k 0 d (left - 1)).2) := by
        rw [bldF, bldN_node (by assumption) hm hlen0]
        rfl
      rw [e]
      refine loop_over (G := Nat × Int × List Tm) (fun g => [(53, iv g.1)]) (fun g => match g.2.2 with
          | [] => [.box 150 [absP ab az ns, iv g.2.1], .box 25 [iv k, iv nn, sv s, .sl b z xs, .sl c y ys], .box 25 zTm, .box 25 zTm, .box 25 [iv k, iv 0, sv [], .sl true 0 [], .sl true 0 []]]
          | a :: r => [.box 150 [absP ab az ns, iv g.2.1], .box 25 [iv k, iv nn, sv s, .sl b z xs, .sl c y ys], .box 25 zTm, .box 25 zTm, .box 25 [iv k, iv 0, sv [], .sl true 0 [], .ms 6 (r.length + 1)], .dead, .row false 25 5 ((a :: r).map encT)]) (fun g => g.1 ≤ ts.length ∧ g.2.2.length = g.1 ∧ -2001 ≤ g.2.1 ∧ g.2.1 ≤ 2000 ∧ (g.2.2 ++ (bldFs (absF ns) (ts.drop g.1) k g.1 d g.2.1).1, (bldFs (absF ns) (ts.drop g.1) k g.1 d g.2.1).2) = bldFs (absF ns) ts k 0 d (left - 1)) (fun g => ts.length - g.1) (0, left - 1, []) ⟨by omega, rfl, by dsimp only; omega, by dsimp only; omega, rfl⟩ rfl rfl ?_
      rintro ⟨j, lf, don⟩ ⟨hj, hdl, hlf0, hlf1, hinv⟩
      dsimp only at hj hdl hlf0 hlf1 hinv
      have hround : ∀ (hj' : j < ts.length), ∃ tc, ts[j]? = some tc ∧ ∃ v, ys[j]? = some v ∧ TmP tc v ∧ Pf C1 161 [iv k, iv j, iv d] [iv (innerF (shBinds k) j d)] ∧
          (Finds C1 116 [.bp 0 0, v, iv (innerF (shBinds k) j d)] [.box 150 [absP ab az ns, iv lf]] fun r st => r = .ret [encT (bldF (absF ns) tc (innerF (shBinds k) j d) lf).1] ∧ st = [.box 150 [absP ab az ns, iv (bldF (absF ns) tc (innerF (shBinds k) j d) lf).2]]) := fun hj' => by
        obtain ⟨tc, htc⟩ : ∃ tc, ts[j]? = some tc := ⟨_, List.getElem?_eq_getElem hj'⟩
        obtain ⟨v, hv, hl⟩ := hys.at htc
        have hmem := List.mem_of_getElem? htc
        have hdep := depTs_mem hmem
        have hac := allTs_at hats htc
        have hi1 := innerF_bd (shBinds k) (0 + j) kk
        have hi2 := innerF_bd (shBinds k) j d
        exact ⟨tc, htc, v, hv, hl, bindInner_can k j d (by omega) hd0 hk17.1 (by omega), ih _ hmem _ hl p _ _ lf hac (by omega) (by omega) (by omega) (by omega) hlf0 hlf1⟩
      cases don with
      | nil =>
        obtain rfl : j = 0 := hdl.symm
        repeat' ((conv => whnf) ; first | refine VIf.tt rfl ?_ | refine VIf.ff rfl ?_ | refine VIf.not ?_ | refine VIf.dtt (by assumption) ?_ | refine VIf.dff (by assumption) ?_ | refine VIf.dec (fun h => ?_) (fun h => ?_) | refine VIf.tt (by assumption) ?_ | refine VIf.ff (by assumption) ?_ | refine VIf.mk (fun h => ?_) (fun h => ?_) | refine VOk.mk rfl ?_ | refine VPur.mk rfl ?_ | refine VNat.mk _ rfl ?_ | refine VArith.fits (by unfold i64; omega) ?_ | refine vret_pf rfl ?_ | refine vret_take rfl rfl ?_ | refine VTch.mk _ rfl ?_)
        all_goals (try (conv => whnf))
        · obtain ⟨tc, htc, v, hv, hl, hin, hrec⟩ := hround (by omega)
          have hlb := bldF_left (absF ns) tc (innerF (shBinds k) (0 : Nat) d) lf hlf0
          rw [drop_at htc] at hinv
          simp only [bldFs] at hinv
          generalize hbx : bldF (absF ns) tc (innerF (shBinds k) (0 : Nat) d) lf = bx at hrec hlb hinv
          obtain ⟨bt, bl⟩ := bx
          obtain ⟨k8, n8, s8, b8, z8, x8, c8, y8, ys8, he8⟩ := encT_open bt
          dsimp only at hrec hlb hinv
          rw [he8] at hrec
          obtain ⟨k1, n1, s1, l1, t1, b2, z1, x1, c1, y1, ys1, rfl, rfl, -⟩ := hl.open
          repeat' ((conv => whnf) ; first | refine VIf.tt rfl ?_ | refine VIf.ff rfl ?_ | refine VIf.not ?_ | refine VIf.dtt (by assumption) ?_ | refine VIf.dff (by assumption) ?_ | refine VIf.dec (fun h => ?_) (fun h => ?_) | refine VIf.tt (by assumption) ?_ | refine VIf.ff (by assumption) ?_ | refine VIf.mk (fun h => ?_) (fun h => ?_) | refine VOk.mk rfl ?_ | refine VPur.mk rfl ?_ | refine VNat.mk _ rfl ?_ | refine VArith.fits (by unfold i64; omega) ?_ | refine vret_pf rfl ?_ | refine vret_take rfl rfl ?_ | refine VIdx.mk _ hv ?_ | refine VOk.mk (szOk_of rfl hy) ?_ | refine finds_pf hin (fun _ => ?_) | refine VTch.mk _ rfl ?_)
          all_goals (try (conv => whnf))
          refine vcall_st rfl rfl rfl rfl rfl rfl (Finds.mono hrec ?_)
          rintro _ _ ⟨rfl, rfl⟩
          refine vback rfl ?_
          repeat' ((conv => whnf) ; first | refine VIf.tt rfl ?_ | refine VIf.ff rfl ?_ | refine VIf.not ?_ | refine VIf.dtt (by assumption) ?_ | refine VIf.dff (by assumption) ?_ | refine VIf.dec (fun h => ?_) (fun h => ?_) | refine VIf.tt (by assumption) ?_ | refine VIf.ff (by assumption) ?_ | refine VIf.mk (fun h => ?_) (fun h => ?_) | refine VOk.mk rfl ?_ | refine VPur.mk rfl ?_ | refine VNat.mk _ rfl ?_ | refine VArith.fits (by unfold i64; omega) ?_ | refine vret_pf rfl ?_ | refine vret_take rfl rfl ?_ | refine VTch.mk _ rfl ?_)
          all_goals (try (conv => whnf))
          have er : [bt].map encT = [.ag [iv k8, iv n8, sv s8, .sl b8 z8 x8, .sl c8 y8 ys8]] := by rw [List.map_cons, he8]; rfl
          exact VAgain.mk _ rfl _ (gc_sh (.cons (sh_box rfl rfl) (.cons (sh_box rfl rfl) (.cons (sh_box rfl rfl) (.cons (sh_box rfl rfl) (.cons (sh_box rfl rfl) (.cons (sh_box rfl rfl) (.cons (sh_row rfl) .nil))))))) (.cons (sh_box rfl rfl) (.cons (sh_box rfl rfl) (.cons (sh_box rfl rfl) (.cons (sh_box rfl rfl) (.cons (sh_box rfl rfl) (.cons sh_dead (.cons (sh_row rfl) .nil))))))) rfl rfl rfl rfl rfl) ⟨(1, bl, [bt]), ⟨by omega, rfl, by dsimp only; omega, by dsimp only; omega, hinv⟩, by dsimp only; omega, congrArg (fun t => (⟨_, [.box _ _, .box _ _, .box _ zTm, .box _ zTm, .box _ [iv k, iv 0, sv [], .sl true 0 [], .ms 6 1], .dead, .row false _ 5 t]⟩ : AS)) er.symm⟩
        · exact absurd (by assumption : ¬ _) (by omega)
      | cons a r =>
        have hln : ((a :: r).map encT).length = r.length + 1 := by simp
        have hdl' : r.length + 1 = j := hdl
        repeat' ((conv => whnf) ; first | refine VIf.tt rfl ?_ | refine VIf.ff rfl ?_ | refine VIf.not ?_ | refine VIf.dtt (by assumption) ?_ | refine VIf.dff (by assumption) ?_ | refine VIf.dec (fun h => ?_) (fun h => ?_) | refine VIf.tt (by assumption) ?_ | refine VIf.ff (by assumption) ?_ | refine VIf.mk (fun h => ?_) (fun h => ?_) | refine VOk.mk rfl ?_ | refine VPur.mk rfl ?_ | refine VNat.mk _ rfl ?_ | refine VArith.fits (by unfold i64; omega) ?_ | refine vret_pf rfl ?_ | refine vret_take rfl rfl ?_ | refine VTch.mk _ rfl ?_)
        all_goals (try (conv => whnf))
        · obtain ⟨tc, htc, v, hv, hl, hin, hrec⟩ := hround (by omega)
          have hlb := bldF_left (absF ns) tc (innerF (shBinds k) j d) lf hlf0
          rw [drop_at htc] at hinv
          simp only [bldFs] at hinv
          generalize hbx : bldF (absF ns) tc (innerF (shBinds k) j d) lf = bx at hrec hlb hinv
          obtain ⟨bt, bl⟩ := bx
          obtain ⟨k8, n8, s8, b8, z8, x8, c8, y8, ys8, he8⟩ := encT_open bt
          dsimp only at hrec hlb hinv
          rw [he8] at hrec
          obtain ⟨k1, n1, s1, l1, t1, b2, z1, x1, c1, y1, ys1, rfl, rfl, -⟩ := hl.open
          repeat' ((conv => whnf) ; first | refine VIf.tt rfl ?_ | refine VIf.ff rfl ?_ | refine VIf.not ?_ | refine VIf.dtt (by assumption) ?_ | refine VIf.dff (by assumption) ?_ | refine VIf.dec (fun h => ?_) (fun h => ?_) | refine VIf.tt (by assumption) ?_ | refine VIf.ff (by assumption) ?_ | refine VIf.mk (fun h => ?_) (fun h => ?_) | refine VOk.mk rfl ?_ | refine VPur.mk rfl ?_ | refine VNat.mk _ rfl ?_ | refine VArith.fits (by unfold i64; omega) ?_ | refine vret_pf rfl ?_ | refine vret_take rfl rfl ?_ | refine VIdx.mk _ hv ?_ | refine VOk.mk (szOk_of rfl hy) ?_ | refine finds_pf hin (fun _ => ?_) | refine VTch.mk _ rfl ?_)
          all_goals (try (conv => whnf))
          refine vcall_st rfl rfl rfl rfl rfl rfl (Finds.mono hrec ?_)
          rintro _ _ ⟨rfl, rfl⟩
          refine vback rfl ?_
          have hp8 : ((a :: r).map encT ++ [PV.ag [iv k8, iv n8, sv s8, .sl b8 z8 x8, .sl c8 y8 ys8]]).all (pur 8) = true := by
            rw [← he8, show (a :: r).map encT ++ [encT bt] = (a :: r ++ [bt]).map encT by simp]
            exact encTs_pure _ 6
          repeat' ((conv => whnf) ; first | refine VIf.tt rfl ?_ | refine VIf.ff rfl ?_ | refine VIf.not ?_ | refine VIf.dtt (by assumption) ?_ | refine VIf.dff (by assumption) ?_ | refine VIf.dec (fun h => ?_) (fun h => ?_) | refine VIf.tt (by assumption) ?_ | refine VIf.ff (by assumption) ?_ | refine VIf.mk (fun h => ?_) (fun h => ?_) | refine VOk.mk rfl ?_ | refine VPur.mk rfl ?_ | refine VNat.mk _ rfl ?_ | refine VArith.fits (by unfold i64; omega) ?_ | refine vret_pf rfl ?_ | refine vret_take rfl rfl ?_ | refine VOk.mk (grow_ok (w := 80) (r := 140737488355328) hln rfl rfl rfl rfl (by simp only [List.length_cons, List.length_nil]; omega) (by simp only [List.length_cons, List.length_nil]; omega)) ?_ | refine VTch.mk _ rfl ?_)
          all_goals (try (conv => whnf))
          have er : (a :: (r ++ [bt])).map encT = (a :: r).map encT ++ [.ag [iv k8, iv n8, sv s8, .sl b8 z8 x8, .sl c8 y8 ys8]] := by rw [← he8]; simp
          have el : (r ++ [bt]).length + 1 = r.length + 1 + 1 := by simp
          refine VAgain.mk _ rfl _ (gc_sh (.cons (sh_box rfl rfl) (.cons (sh_box rfl rfl) (.cons (sh_box rfl rfl) (.cons (sh_box rfl rfl) (.cons (sh_box rfl rfl) (.cons sh_dead (.cons (sh_row hp8) (.cons (sh_box rfl rfl) .nil)))))))) (.cons (sh_box rfl rfl) (.cons (sh_box rfl rfl) (.cons (sh_box rfl rfl) (.cons (sh_box rfl rfl) (.cons (sh_box rfl rfl) (.cons sh_dead (.cons (sh_row hp8) .nil))))))) rfl rfl rfl rfl rfl) ⟨(j + 1, bl, a :: (r ++ [bt])), ⟨by omega, by simp only [List.length_cons, List.length_append, List.length_nil]; omega, by dsimp only; omega, by dsimp only; omega, ?_⟩, by dsimp only; omega, ?_⟩
          · dsimp only
            rw [← hinv, Int.natCast_add]
            simp
          · dsimp only
            rw [er, el]
            rfl
        · have hj2 : j = ts.length := by omega
          rw [hj2, List.drop_length] at hinv
          simp only [bldFs, List.append_nil] at hinv
          rw [← hinv]
          refine vret_pub2 rfl (mapS_cons (pubV_ag (mapS_cons rfl (mapS_cons rfl (mapS_cons rfl (mapS_cons rfl (mapS_cons (pubV_row rfl hln.symm (encTs_pure _ 4)) mapS_nil)))))) mapS_nil) rfl rfl ⟨?_, rfl⟩
          rw [encT_mk, encTv_pos (by simp)]
          rfl
end Go.Proofs.YtehhihdahalfeaaGreatDoor

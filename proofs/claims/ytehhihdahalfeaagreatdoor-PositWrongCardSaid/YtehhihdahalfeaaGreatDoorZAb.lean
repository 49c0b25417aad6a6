/-
  Layer 18's tree, and what package posit begins with of it: closed calls, reckoned. No statement of the seat.
-/
import Derived.Test.YtehhihdahalfeaaGreatDoorZLj
import Derived.Test.YtehhihdahalfeaaGreatDoorZUm
set_option linter.unusedVariables false
set_option linter.unusedSimpArgs false
set_option linter.unnecessarySimpa false
namespace Go.Proofs.YtehhihdahalfeaaGreatDoor
open Go Go.Am Go.Gw
/-- the tree's constructors -/
def treeC : List PV := [(.ag [sv [108, 101, 97, 102], iv 6, iv 0, sv [], (.sl true 0 []), (.sl false 5 [(.ag [iv 2, iv 0, sv [], (.sl true 3 [(.ag [iv 1, iv 1, (.sl true 0 [])])]), (.sl true 0 [])]), (.ag [iv 4, iv 0, sv [], (.sl true 0 []), (.sl true 5 [(.ag [iv 3, iv 0, sv [116, 114, 101, 101], (.sl true 0 []), (.sl true 0 [])]), (.ag [iv 1, iv 0, sv [], (.sl true 0 []), (.sl true 0 [])])])])])]), (.ag [sv [110, 111, 100, 101], iv 6, iv 0, sv [], (.sl true 0 []), (.sl false 5 [(.ag [iv 2, iv 0, sv [], (.sl true 3 [(.ag [iv 1, iv 1, (.sl true 0 [])])]), (.sl true 0 [])]), (.ag [iv 6, iv 0, sv [], (.sl true 0 []), (.sl false 5 [(.ag [iv 6, iv 0, sv [], (.sl true 0 []), (.sl false 5 [(.ag [iv 1, iv 0, sv [], (.sl true 0 []), (.sl true 0 [])]), (.ag [iv 4, iv 0, sv [], (.sl true 0 []), (.sl true 5 [(.ag [iv 3, iv 0, sv [116, 114, 101, 101], (.sl true 0 []), (.sl true 0 [])]), (.ag [iv 1, iv 1, sv [], (.sl true 0 []), (.sl true 0 [])])])])])]), (.ag [iv 4, iv 0, sv [], (.sl true 0 []), (.sl true 5 [(.ag [iv 3, iv 0, sv [116, 114, 101, 101], (.sl true 0 []), (.sl true 0 [])]), (.ag [iv 1, iv 1, sv [], (.sl true 0 []), (.sl true 0 [])])])])])])])])]
/-- the tree -/
def treeV : PV := .ag [iv 5, iv 0, sv [116, 114, 101, 101], iv 6, iv 0, sv [], (.sl true 0 []), (.sl false 5 [(.ag [iv 2, iv 0, sv [], (.sl true 3 [(.ag [iv 1, iv 1, (.sl true 0 [])])]), (.sl true 0 [])]), (.ag [iv 2, iv 0, sv [], (.sl true 3 [(.ag [iv 1, iv 1, (.sl true 0 [])])]), (.sl true 0 [])])]), iv 0, iv 0, sv [], (.sl true 0 []), (.sl true 0 []), iv 1, .ms 0 2]
/-- the tree, once it is handed on -/
def treeS : PV := .ag [iv 5, iv 0, sv [116, 114, 101, 101], iv 6, iv 0, sv [], (.sl true 0 []), (.sl false 5 [(.ag [iv 2, iv 0, sv [], (.sl true 3 [(.ag [iv 1, iv 1, (.sl true 0 [])])]), (.sl true 0 [])]), (.ag [iv 2, iv 0, sv [], (.sl true 3 [(.ag [iv 1, iv 1, (.sl true 0 [])])]), (.sl true 0 [])])]), iv 0, iv 0, sv [], (.sl true 0 []), (.sl true 0 []), iv 1, .sl false 6 treeC]
/-- the maker of its form -/
def treeM : PV := .cp [iv 5, iv 0, sv [116, 114, 101, 101], iv 6, iv 0, sv [], (.sl true 0 []), (.sl false 5 [(.ag [iv 2, iv 0, sv [], (.sl true 3 [(.ag [iv 1, iv 1, (.sl true 0 [])])]), (.sl true 0 [])]), (.ag [iv 2, iv 0, sv [], (.sl true 3 [(.ag [iv 1, iv 1, (.sl true 0 [])])]), (.sl true 0 [])])]), iv 0, iv 0, sv [], (.sl true 0 []), (.sl true 0 []), iv 1, .sl false 6 treeC, iv 3, iv 0, sv [116, 114, 101, 101], (.sl true 0 []), (.sl true 0 []), iv 0]
def treeF : PV := (.ag [iv 0, iv 1, iv 1, (.sl true 0 []), (.sl true 0 [])])
theorem tree_can : Finds C1 33 [] [] fun r st => r = .ret [treeV] ∧ st = [.row false 72 6 treeC] := finds_of 60 (by kernel_rfl) ⟨rfl, rfl⟩
theorem treeBegin_can : Pf C1 58 [treeS] [treeM, treeF, iv 0] := pf_of (st' := []) 60 (by kernel_rfl)
end Go.Proofs.YtehhihdahalfeaaGreatDoor
namespace Go.Proofs.YtehhihdahalfeaaGreatDoor
open Go Go.Am Go.Gw
def treeN : List UInt8 := [116, 114, 101, 101]
set_option maxHeartbeats 1000000 in
set_option maxRecDepth 100000 in
theorem stands_can (t : Tm) (v : PV) (h : TmP t v) : Pf C1 108 [treeM, v] [bv (decide (treeN ∈ ConstsF t))] := by
  have ho := Occurs_can t v h treeN
  obtain ⟨k0, nn0, s0, ls0, ts0, b0, z0, xs0, c0, y0, ys0, rfl, rfl, -⟩ := h.open
  refine run_intro Tryz.func108 rfl rfl rfl ?_
  repeat' ((conv => whnf) ; first | refine VIf.tt rfl ?_ | refine VIf.ff rfl ?_ | refine VIf.not ?_ | refine VIf.dtt (by assumption) ?_ | refine VIf.dff (by assumption) ?_ | refine VIf.dec (fun h => ?_) (fun h => ?_) | refine VIf.tt (by assumption) ?_ | refine VIf.ff (by assumption) ?_ | refine VIf.mk (fun h => ?_) (fun h => ?_) | refine VOk.mk rfl ?_ | refine VPur.mk rfl ?_ | refine VNat.mk _ rfl ?_ | refine VArith.fits (by unfold i64; omega) ?_ | refine vret_pf rfl ?_ | refine vret_take rfl rfl ?_ | refine vcall_pf ho rfl rfl ?_ | refine finds_pf ho (fun _ => ?_) | refine VTch.mk _ rfl ?_)
  all_goals (try (conv => whnf))
  rfl
set_option maxHeartbeats 1000000 in
set_option maxRecDepth 100000 in
theorem armsPlain_can (t : Tm) (v : PV) (h : TmP t v) (deep : Int) (hn : treeN ∉ ConstsF t) : Pf C1 63 [treeM, v, iv deep] [iv (-1), bv true] := by
  have hs := stands_can t v h
  rw [decide_eq_false hn] at hs
  obtain ⟨k0, nn0, s0, ls0, ts0, b0, z0, xs0, c0, y0, ys0, rfl, rfl, -⟩ := h.open
  refine run_intro Tryz.func63 rfl rfl rfl ?_
  repeat' ((conv => whnf) ; first | refine VIf.tt rfl ?_ | refine VIf.ff rfl ?_ | refine VIf.not ?_ | refine VIf.dtt (by assumption) ?_ | refine VIf.dff (by assumption) ?_ | refine VIf.dec (fun h => ?_) (fun h => ?_) | refine VIf.tt (by assumption) ?_ | refine VIf.ff (by assumption) ?_ | refine VIf.mk (fun h => ?_) (fun h => ?_) | refine VOk.mk rfl ?_ | refine VPur.mk rfl ?_ | refine VNat.mk _ rfl ?_ | refine VArith.fits (by unfold i64; omega) ?_ | refine vret_pf rfl ?_ | refine vret_take rfl rfl ?_ | refine vcall_pf hs rfl rfl ?_ | refine finds_pf hs (fun _ => ?_) | refine VTch.mk _ rfl ?_)
  all_goals (try (conv => whnf))
set_option maxHeartbeats 1000000 in
set_option maxRecDepth 100000 in
theorem Arms_tree (t : Tm) (v : PV) (h : TmP t v) (deep : Int) (hd : 1 ≤ deep ∧ deep ≤ 64) (hr : rightT t 0 deep = true) (hn : treeN ∉ ConstsF t) :
    Pf C1 25 [treeS, v, iv deep] [iv (-1), iv 0] := by
  have ha := armsPlain_can t v h deep hn
  have hb := treeBegin_can
  have hrt := termRight_can t v h 0 deep
  rw [hr] at hrt
  obtain ⟨k0, nn0, s0, ls0, ts0, b0, z0, xs0, c0, y0, ys0, rfl, rfl, -⟩ := h.open
  refine run_intro Tryz.func25 rfl rfl rfl ?_
  repeat' ((conv => whnf) ; first | refine VIf.tt rfl ?_ | refine VIf.ff rfl ?_ | refine VIf.not ?_ | refine VIf.dtt (by assumption) ?_ | refine VIf.dff (by assumption) ?_ | refine VIf.dec (fun h => ?_) (fun h => ?_) | refine VIf.tt (by assumption) ?_ | refine VIf.ff (by assumption) ?_ | refine VIf.mk (fun h => ?_) (fun h => ?_) | refine VOk.mk rfl ?_ | refine VPur.mk rfl ?_ | refine VNat.mk _ rfl ?_ | refine VArith.fits (by unfold i64; omega) ?_ | refine vret_pf rfl ?_ | refine vret_take rfl rfl ?_ | refine vcall_pf hb rfl rfl ?_ | refine vcall_pf hrt rfl rfl ?_ | refine vcall_pf ha rfl rfl ?_ | refine finds_pf hb (fun _ => ?_) | refine finds_pf hrt (fun _ => ?_) | refine finds_pf ha (fun _ => ?_) | refine VTch.mk _ rfl ?_)
  all_goals (try (conv => whnf))
  all_goals first | rfl | omega | trace_state
theorem finds_tree {K : AEnd → Sto → Prop} (k : K (.ret [treeV]) [.row false 72 6 treeC]) : Finds C1 33 [] [] K := Finds.mono tree_can (by rintro _ _ ⟨rfl, rfl⟩; exact k)
set_option maxHeartbeats 2000000 in
set_option maxRecDepth 100000 in
theorem PositLifts_can (hal : Pf C1 19 [] [bv true]) (t : Tm) (v : PV) (h : TmP t v) (n : Int) : Pf C1 7 [v, iv n] [bv true] := by
  have hnd := useNodes_can t v h 600 (by omega) (by omega)
  have hrr := refRightT_can t v h h.names 0 1
  have hoc := Occurs_can t v h treeN
  have hli := Lift_can t v h n 0
  by_cases hgd : 600 < useN t 600 ∨ n < 0 ∨ 30 < n ∨ rightT t 0 1 = false ∨ treeN ∈ ConstsF t
  · obtain ⟨k0, nn0, s0, ls0, ts0, b0, z0, xs0, c0, y0, ys0, rfl, rfl, -⟩ := h.open
    refine run_intro Tryz.func7 rfl rfl rfl ?_
    repeat' ((conv => whnf) ; first | refine VIf.tt rfl ?_ | refine VIf.ff rfl ?_ | refine VIf.not ?_ | refine VIf.dtt (by assumption) ?_ | refine VIf.dff (by assumption) ?_ | refine VIf.dec (fun h => ?_) (fun h => ?_) | refine VIf.tt (by assumption) ?_ | refine VIf.ff (by assumption) ?_ | refine VIf.mk (fun h => ?_) (fun h => ?_) | refine VOk.mk rfl ?_ | refine VPur.mk rfl ?_ | refine VNat.mk _ rfl ?_ | refine VArith.fits (by unfold i64; omega) ?_ | refine vret_pf rfl ?_ | refine vret_take rfl rfl ?_ | refine vcall_pf hal rfl rfl ?_ | refine vcall_pf hnd rfl rfl ?_ | refine vcall_pf hrr rfl rfl ?_ | refine vcall_pf hoc rfl rfl ?_ | refine VTch.mk _ rfl ?_)
    all_goals (try (conv => whnf))
    all_goals first
      | rfl
      | (exfalso; simp_all; done)
      | (exfalso; simp_all; omega)
  · obtain ⟨g1, g2, g3, g4, g5⟩ : ¬ 600 < useN t 600 ∧ ¬ n < 0 ∧ ¬ 30 < n ∧ rightT t 0 1 = true ∧ treeN ∉ ConstsF t := by
      refine ⟨fun e => hgd (.inl e), fun e => hgd (.inr (.inl e)), fun e => hgd (.inr (.inr (.inl e))), ?_, fun e => hgd (.inr (.inr (.inr (.inr e))))⟩
      cases e : rightT t 0 1 with
      | true => rfl
      | false => exact absurd (.inr (.inr (.inr (.inl e)))) hgd
    obtain ⟨x, hx, hxr, hxc⟩ := lift_law (b := n) (by omega) (by omega) g4
    have hany := rightT_any g4
    have hxn : treeN ∉ ConstsF x := by
      have e1 : ConstsF x = ConstsF t := by rw [ConstsF, ConstsF, if_pos (rightT_any hxr), if_pos hany, hxc]
      rw [e1]
      exact g5
    have hxw : TmW x := madeF_ok (movF_put (by omega)) h.w (any_parts hany).2 (by omega) (by have := any_dep hany; omega) (any_dep hany) hx
    have hlf : LiftF t n 0 = some x := by rw [LiftF, if_pos ⟨hany, by omega, by omega⟩, hx]
    rw [hlf] at hli
    simp only [putV] at hli
    rw [g4] at hrr
    rw [decide_eq_false g5] at hoc
    have ha1 := Arms_tree t v h 1 (by omega) g4 g5
    have ha2 := Arms_tree x _ hxw (1 + n) (by omega) hxr hxn
    obtain ⟨k9, n9, s9, b9, z9, x9, c9, y9, ys9, he9⟩ := encT_open x
    rw [he9] at hli ha2
    obtain ⟨k0, nn0, s0, ls0, ts0, b0, z0, xs0, c0, y0, ys0, rfl, rfl, -⟩ := h.open
    refine run_intro Tryz.func7 rfl rfl rfl ?_
    repeat' ((conv => whnf) ; first | refine VIf.tt rfl ?_ | refine VIf.ff rfl ?_ | refine VIf.not ?_ | refine VIf.dtt (by assumption) ?_ | refine VIf.dff (by assumption) ?_ | refine VIf.dec (fun h => ?_) (fun h => ?_) | refine VIf.tt (by assumption) ?_ | refine VIf.ff (by assumption) ?_ | refine VIf.mk (fun h => ?_) (fun h => ?_) | refine VOk.mk rfl ?_ | refine VPur.mk rfl ?_ | refine VNat.mk _ rfl ?_ | refine VArith.fits (by unfold i64; omega) ?_ | refine vret_pf rfl ?_ | refine vret_take rfl rfl ?_ | refine vcall_pf hal rfl rfl ?_ | refine vcall_pf hnd rfl rfl ?_ | refine vcall_pf hrr rfl rfl ?_ | refine vcall_pf hoc rfl rfl ?_ | refine vcall_pf hli rfl rfl ?_ | refine vcall_hand rfl rfl ha1 rfl ?_ | refine vcall_hand rfl rfl ha2 rfl ?_ | refine vcall_made rfl (finds_tree ⟨rfl, ?_⟩) | refine finds_tree ?_ | refine VPur.made rfl ?_ | refine vback rfl ?_ | refine VTch.mk _ rfl ?_)
    all_goals (try (conv => whnf))
    all_goals first
      | rfl
      | trace_state
end Go.Proofs.YtehhihdahalfeaaGreatDoor

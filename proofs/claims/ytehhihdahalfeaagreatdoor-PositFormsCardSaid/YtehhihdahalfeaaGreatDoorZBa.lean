/-
  The form of layer 18's vectors: posit.Shape. No statement of the seat.
-/
import Derived.Test.YtehhihdahalfeaaGreatDoorZAz
set_option linter.unusedVariables false
set_option linter.unusedSimpArgs false
set_option linter.unnecessarySimpa false
namespace Go.Proofs.YtehhihdahalfeaaGreatDoor
open Go Go.Am Go.Gw
def vecZ : List SO := [.box 46 vecS.cells, .box 53 [iv 0, iv 0, iv 0, .sl true 0 [], .sl true 0 []]]
def vecSto : Nat → Sto
  | 0 => vecZ ++ [.box 53 [iv 1, iv 3, iv 0, (.sl false 3 [(.ag [iv 2, iv 0, (.sl true 0 [])])]), .sl true 0 []]]
  | 1 => vecZ ++ [.box 53 [iv 1, iv 3, iv 0, (.sl false 3 [(.ag [iv 2, iv 0, (.sl true 0 [])])]), .ms 5 1], .dead, .dead, .row false 71 3 [vecFa]]
  | _ => vecZ ++ [.box 53 [iv 1, iv 3, iv 0, (.sl false 3 [(.ag [iv 2, iv 0, (.sl true 0 [])])]), .ms 5 2], .dead, .dead, .row false 71 3 [vecFa, vecFb]]
set_option maxHeartbeats 1000000 in
set_option maxRecDepth 100000 in
theorem vecShape_can : Pf C1 23 [vecS] [vecF, iv 0] := by
  have hb := vecBegin_can
  have ha := vecCa_can
  have hc := vecCb_can
  refine run_intro Tryz.func23 rfl rfl rfl ?_
  repeat' ((conv => whnf) ; first | refine gT ?_ | refine gF ?_ | refine VIf.not ?_ | refine gA ?_ | refine gB ?_ | refine VIf.dec (fun h => ?_) (fun h => ?_) | refine gC ?_ | refine gD ?_ | refine VIf.mk (fun h => ?_) (fun h => ?_) | refine gO ?_ | refine gP ?_ | refine VNat.mk _ rfl ?_ | refine gV ?_ | refine vret_pf rfl ?_ | refine vret_take rfl rfl ?_ | refine vcall_pf hb rfl rfl ?_ | refine finds_pf hb (fun _ => ?_) | refine gK ?_)
  all_goals (try (conv => whnf))
  refine loop_over (G := Nat) (fun i => [(24, iv i)]) vecSto (fun i => i ≤ 2) (fun i => 2 - i) 0 (by omega) rfl rfl ?_
  intro i hi
  match i, hi with
  | 0, _ =>
    dsimp only
    repeat' ((conv => whnf) ; first | refine gT ?_ | refine gF ?_ | refine VIf.not ?_ | refine gA ?_ | refine gB ?_ | refine VIf.dec (fun h => ?_) (fun h => ?_) | refine gC ?_ | refine gD ?_ | refine VIf.mk (fun h => ?_) (fun h => ?_) | refine gO ?_ | refine gP ?_ | refine VNat.mk _ rfl ?_ | refine gV ?_ | refine vret_pf rfl ?_ | refine vret_take rfl rfl ?_ | refine vcall_pf ha rfl rfl ?_ | refine finds_pf ha (fun _ => ?_) | refine VIdx.mk _ rfl ?_ | refine gK ?_)
    all_goals (try (conv => whnf))
    exact VAgain.mk _ rfl _ (by kernel_rfl) ⟨1, by omega, by omega, rfl⟩
  | 1, _ =>
    dsimp only
    repeat' ((conv => whnf) ; first | refine gT ?_ | refine gF ?_ | refine VIf.not ?_ | refine gA ?_ | refine gB ?_ | refine VIf.dec (fun h => ?_) (fun h => ?_) | refine gC ?_ | refine gD ?_ | refine VIf.mk (fun h => ?_) (fun h => ?_) | refine gO ?_ | refine gP ?_ | refine VNat.mk _ rfl ?_ | refine gV ?_ | refine vret_pf rfl ?_ | refine vret_take rfl rfl ?_ | refine vcall_pf hc rfl rfl ?_ | refine finds_pf hc (fun _ => ?_) | refine VIdx.mk _ rfl ?_ | refine gK ?_)
    all_goals (try (conv => whnf))
    exact VAgain.mk _ rfl _ (by kernel_rfl) ⟨2, by omega, by omega, rfl⟩
  | 2, _ =>
    dsimp only
    repeat' ((conv => whnf) ; first | refine gT ?_ | refine gF ?_ | refine VIf.not ?_ | refine gA ?_ | refine gB ?_ | refine VIf.dec (fun h => ?_) (fun h => ?_) | refine gC ?_ | refine gD ?_ | refine VIf.mk (fun h => ?_) (fun h => ?_) | refine gO ?_ | refine gP ?_ | refine VNat.mk _ rfl ?_ | refine gV ?_ | refine vret_pf rfl ?_ | refine vret_take rfl rfl ?_ | refine VIdx.mk _ rfl ?_ | refine gK ?_)
    all_goals (try (conv => whnf))
    exact ⟨[vecF, iv 0], [], by kernel_rfl, rfl⟩
  | n + 3, h => exact absurd h (by omega)
end Go.Proofs.YtehhihdahalfeaaGreatDoor

/-
  Layer 18 is alive. No statement of the seat.
-/
import Derived.Test.YtehhihdahalfeaaGreatDoorZAb
import Derived.Test.YtehhihdahalfeaaGreatDoorZBa
import Derived.Test.YtehhihdahalfeaaGreatDoorZBb
import Derived.Test.YtehhihdahalfeaaGreatDoorZBd
set_option linter.unusedVariables false
set_option linter.unusedSimpArgs false
set_option linter.unnecessarySimpa false
namespace Go.Proofs.YtehhihdahalfeaaGreatDoor
open Go Go.Am Go.Gw
set_option maxHeartbeats 1000000 in
set_option maxRecDepth 100000 in
theorem vecLarge : Pf C1 28 [vecF] [bv true] := pf_of (st' := []) 60 (by kernel_rfl)
set_option maxHeartbeats 4000000 in
set_option maxRecDepth 100000 in
theorem alive18_can : Pf C1 19 [] [bv true] := by
  have h1 := vec_can
  have h2 := vecShape_can
  have h3 := treeShape_can
  have h4 := badR
  have h5 := badShape_can
  have h6 := fldR
  have h7 := fldArms_can
  have h8 := vecTx
  have h9 := vecLv
  have h10 := vecLarge
  refine run_intro Tryz.func19 rfl rfl rfl ?_
  repeat' ((conv => whnf) ; first | refine gT ?_ | refine gF ?_ | refine VIf.not ?_ | refine gA ?_ | refine gB ?_ | refine VIf.dec (fun h => ?_) (fun h => ?_) | refine gC ?_ | refine gD ?_ | refine VIf.mk (fun h => ?_) (fun h => ?_) | refine gO ?_ | refine gP ?_ | refine VNat.mk _ rfl ?_ | refine gV ?_ | refine vret_pf rfl ?_ | refine vret_take rfl rfl ?_ | refine vcall_pf h1 rfl rfl ?_ | refine vcall_pf h2 rfl rfl ?_ | refine vcall_hand rfl rfl h3 rfl ?_ | refine vcall_pf h4 rfl rfl ?_ | refine vcall_hand rfl rfl h5 rfl ?_ | refine vcall_pf h6 rfl rfl ?_ | refine vcall_hand rfl rfl h7 rfl ?_ | refine vcall_pf h8 rfl rfl ?_ | refine vcall_pf h9 rfl rfl ?_ | refine vcall_pf h10 rfl rfl ?_ | refine finds_pf h1 (fun _ => ?_) | refine finds_pf h2 (fun _ => ?_) | refine finds_pf h3 (fun _ => ?_) | refine finds_pf h4 (fun _ => ?_) | refine finds_pf h5 (fun _ => ?_) | refine finds_pf h6 (fun _ => ?_) | refine finds_pf h7 (fun _ => ?_) | refine finds_pf h8 (fun _ => ?_) | refine finds_pf h9 (fun _ => ?_) | refine finds_pf h10 (fun _ => ?_) | refine vcall_made rfl (finds_tree ⟨rfl, ?_⟩) | refine finds_tree ?_ | refine VPur.made rfl ?_ | refine vback rfl ?_ | refine VIdx.mk _ rfl ?_ | refine vres_str ?_ | refine gK ?_)
  all_goals (try (conv => whnf))
  all_goals first
    | rfl
    | trace_state
end Go.Proofs.YtehhihdahalfeaaGreatDoor

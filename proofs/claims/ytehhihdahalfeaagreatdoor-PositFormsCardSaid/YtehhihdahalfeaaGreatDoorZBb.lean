/-
  Layer 18's vectors as they are read: closed calls, reckoned. No statement of the seat.
-/
import Derived.Test.YtehhihdahalfeaaGreatDoorZAz
set_option linter.unusedVariables false
set_option linter.unusedSimpArgs false
set_option linter.unnecessarySimpa false
namespace Go.Proofs.YtehhihdahalfeaaGreatDoor
open Go Go.Am Go.Gw
def vecTy : PV := (.ag [iv 6, iv 0, sv [], (.sl true 0 []), (.sl false 5 [(.ag [iv 2, iv 0, sv [], (.sl true 3 [(.ag [iv 3, iv 0, (.sl false 3 [(.ag [iv 2, iv 0, (.sl true 0 [])])])])]), (.sl true 0 [])]), (.ag [iv 6, iv 0, sv [], (.sl true 0 []), (.sl false 5 [(.ag [iv 3, iv 0, sv [110, 97, 116], (.sl true 0 []), (.sl true 0 [])]), (.ag [iv 2, iv 0, sv [], (.sl true 3 [(.ag [iv 3, iv 0, (.sl false 3 [(.ag [iv 2, iv 0, (.sl true 0 [])])])])]), (.sl true 0 [])])])])])])
theorem vecR1 : Pf C1 31 [sv [40, 62, 32, 40, 42, 32, 40, 43, 32, 117, 48, 41, 41, 32, 40, 62, 32, 110, 97, 116, 32, 40, 42, 32, 40, 43, 32, 117, 48, 41, 41, 41, 41]] [vecTy] := pf_of (st' := []) 60 (by kernel_rfl)
theorem vecR2 : Pf C1 31 [sv [40, 62, 32, 40, 42, 32, 40, 43, 32, 117, 48, 41, 41, 32, 40, 40, 64, 32, 118, 101, 99, 32, 117, 48, 41, 32, 35, 48, 32, 110, 97, 116, 46, 122, 101, 114, 111, 41, 41]] [vecTa] := pf_of (st' := []) 60 (by kernel_rfl)
theorem vecR3 : Pf C1 31 [sv [40, 62, 32, 40, 42, 32, 40, 43, 32, 117, 48, 41, 41, 32, 40, 62, 32, 110, 97, 116, 32, 40, 62, 32, 35, 49, 32, 40, 62, 32, 40, 40, 64, 32, 118, 101, 99, 32, 117, 48, 41, 32, 35, 50, 32, 35, 49, 41, 32, 40, 40, 64, 32, 118, 101, 99, 32, 117, 48, 41, 32, 35, 51, 32, 40, 110, 97, 116, 46, 115, 117, 99, 99, 32, 35, 50, 41, 41, 41, 41, 41, 41]] [vecTb] := pf_of (st' := []) 60 (by kernel_rfl)
set_option maxHeartbeats 1000000 in
set_option maxRecDepth 100000 in
theorem vec_can : Pf C1 53 [] [vecS] := by
  have h1 := vecR1
  have h2 := vecR2
  have h3 := vecR3
  refine run_intro Tryz.func53 rfl rfl rfl ?_
  repeat' ((conv => whnf) ; first | refine gT ?_ | refine gF ?_ | refine VIf.not ?_ | refine gA ?_ | refine gB ?_ | refine VIf.dec (fun h => ?_) (fun h => ?_) | refine gC ?_ | refine gD ?_ | refine VIf.mk (fun h => ?_) (fun h => ?_) | refine gO ?_ | refine gP ?_ | refine VNat.mk _ rfl ?_ | refine gV ?_ | refine vret_pf rfl ?_ | refine vret_take rfl rfl ?_ | refine vcall_pf h1 rfl rfl ?_ | refine vcall_pf h2 rfl rfl ?_ | refine vcall_pf h3 rfl rfl ?_ | refine finds_pf h1 (fun _ => ?_) | refine finds_pf h2 (fun _ => ?_) | refine finds_pf h3 (fun _ => ?_) | refine gK ?_)
  all_goals (try (conv => whnf))
  first | rfl | exact ⟨[vecS], [], by kernel_rfl, rfl⟩
end Go.Proofs.YtehhihdahalfeaaGreatDoor

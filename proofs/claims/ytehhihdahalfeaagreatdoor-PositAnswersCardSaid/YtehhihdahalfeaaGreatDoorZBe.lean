/-
  The form of layer 18's vectors: posit.Shape. No statement of the seat.
-/
import Derived.Test.YtehhihdahalfeaaGreatDoorZAz
set_option linter.unusedVariables false
set_option linter.unusedSimpArgs false
set_option linter.unnecessarySimpa false
namespace Go.Proofs.YtehhihdahalfeaaGreatDoor
open Go Go.Am Go.Gw
def vecZ:List SO:=[.box 46 vecS.cells,.box 53 [iv 0,iv 0,iv 0,.sl true 0 [],.sl true 0 []]]
def vecSto:Nat→Sto
  |0=>vecZ ++ [.box 53 [iv 1,iv 3,iv 0,(.sl false 3 [(.ag [iv 2,iv 0,(.sl true 0 [])])]),.sl true 0 []]]
  |1=>vecZ ++ [.box 53 [iv 1,iv 3,iv 0,(.sl false 3 [(.ag [iv 2,iv 0,(.sl true 0 [])])]),.ms 5 1],.dead,.dead,.row false 71 3 [vecFa]]
  |_=>vecZ ++ [.box 53 [iv 1,iv 3,iv 0,(.sl false 3 [(.ag [iv 2,iv 0,(.sl true 0 [])])]),.ms 5 2],.dead,.dead,.row false 71 3 [vecFa,vecFb]]
set_option maxHeartbeats 1000000 in
set_option maxRecDepth 100000 in
theorem vecShape_can:Pf C1 23 [vecS] [vecF,iv 0]:=by
  have hb:=vecBegin_can
  have ha:=vecCa_can
  have hc:=vecCb_can
  refine run_intro Tryz.func23 rfl rfl rfl ?_
  repeat' ((conv=>whnf);first|refine gT ?_|refine gF ?_|refine VIf.not ?_|refine gA ?_|refine gB ?_|refine VIf.dec (fun h=>?_) (fun h=>?_)|refine gC ?_|refine gD ?_|refine VIf.mk (fun h=>?_) (fun h=>?_)|refine gO ?_|refine gP ?_|refine VNat.mk _ rfl ?_|refine gV ?_|refine vret_pf rfl ?_|refine vret_take rfl rfl ?_|refine vcall_pf hb rfl rfl ?_|refine finds_pf hb (fun _=>?_)|refine gK ?_)
  all_goals (try (conv=>whnf))
  refine loop_over (G:=Nat) (fun i=>[(24,iv i)]) vecSto (fun i=>i ≤ 2) (fun i=>2 - i) 0 (by omega) rfl rfl ?_
  intro i hi
  match i,hi with
  |0,_ =>
    dsimp only
    repeat' ((conv=>whnf);first|refine gT ?_|refine gF ?_|refine VIf.not ?_|refine gA ?_|refine gB ?_|refine VIf.dec (fun h=>?_) (fun h=>?_)|refine gC ?_|refine gD ?_|refine VIf.mk (fun h=>?_) (fun h=>?_)|refine gO ?_|refine gP ?_|refine VNat.mk _ rfl ?_|refine gV ?_|refine vret_pf rfl ?_|refine vret_take rfl rfl ?_|refine vcall_pf ha rfl rfl ?_|refine finds_pf ha (fun _=>?_)|refine VIdx.mk _ rfl ?_|refine gK ?_)
    all_goals (try (conv=>whnf))
    exact VAgain.mk _ rfl _ (by kernel_rfl) ⟨1,by omega,by omega,rfl⟩
  |1,_ =>
    dsimp only
    repeat' ((conv=>whnf);first|refine gT ?_|refine gF ?_|refine VIf.not ?_|refine gA ?_|refine gB ?_|refine VIf.dec (fun h=>?_) (fun h=>?_)|refine gC ?_|refine gD ?_|refine VIf.mk (fun h=>?_) (fun h=>?_)|refine gO ?_|refine gP ?_|refine VNat.mk _ rfl ?_|refine gV ?_|refine vret_pf rfl ?_|refine vret_take rfl rfl ?_|refine vcall_pf hc rfl rfl ?_|refine finds_pf hc (fun _=>?_)|refine VIdx.mk _ rfl ?_|refine gK ?_)
    all_goals (try (conv=>whnf))
    exact VAgain.mk _ rfl _ (by kernel_rfl) ⟨2,by omega,by omega,rfl⟩
  |2,_ =>
    dsimp only
    repeat' ((conv=>whnf);first|refine gT ?_|refine gF ?_|refine VIf.not ?_|refine gA ?_|refine gB ?_|refine VIf.dec (fun h=>?_) (fun h=>?_)|refine gC ?_|refine gD ?_|refine VIf.mk (fun h=>?_) (fun h=>?_)|refine gO ?_|refine gP ?_|refine VNat.mk _ rfl ?_|refine gV ?_|refine vret_pf rfl ?_|refine vret_take rfl rfl ?_|refine VIdx.mk _ rfl ?_|refine gK ?_)
    all_goals (try (conv=>whnf))
    exact ⟨[vecF,iv 0],[],by kernel_rfl,rfl⟩
  |n + 3,h=>exact absurd h (by omega)
end Go.Proofs.YtehhihdahalfeaaGreatDoor
namespace Go.Proofs.YtehhihdahalfeaaGreatDoor
open Go Go.Am Go.Gw
def vecTy:PV:=(.ag [iv 6,iv 0,sv [],(.sl true 0 []),(.sl false 5 [(.ag [iv 2,iv 0,sv [],(.sl true 3 [(.ag [iv 3,iv 0,(.sl false 3 [(.ag [iv 2,iv 0,(.sl true 0 [])])])])]),(.sl true 0 [])]),(.ag [iv 6,iv 0,sv [],(.sl true 0 []),(.sl false 5 [(.ag [iv 3,iv 0,sv [110,97,116],(.sl true 0 []),(.sl true 0 [])]),(.ag [iv 2,iv 0,sv [],(.sl true 3 [(.ag [iv 3,iv 0,(.sl false 3 [(.ag [iv 2,iv 0,(.sl true 0 [])])])])]),(.sl true 0 [])])])])])])
theorem vecR1:Pf C1 31 [sv [40,62,32,40,42,32,40,43,32,117,48,41,41,32,40,62,32,110,97,116,32,40,42,32,40,43,32,117,48,41,41,41,41]] [vecTy]:=pf_of (st':=[]) 60 (by kernel_rfl)
theorem vecR2:Pf C1 31 [sv [40,62,32,40,42,32,40,43,32,117,48,41,41,32,40,40,64,32,118,101,99,32,117,48,41,32,35,48,32,110,97,116,46,122,101,114,111,41,41]] [vecTa]:=pf_of (st':=[]) 60 (by kernel_rfl)
theorem vecR3:Pf C1 31 [sv [40,62,32,40,42,32,40,43,32,117,48,41,41,32,40,62,32,110,97,116,32,40,62,32,35,49,32,40,62,32,40,40,64,32,118,101,99,32,117,48,41,32,35,50,32,35,49,41,32,40,40,64,32,118,101,99,32,117,48,41,32,35,51,32,40,110,97,116,46,115,117,99,99,32,35,50,41,41,41,41,41,41]] [vecTb]:=pf_of (st':=[]) 60 (by kernel_rfl)
set_option maxHeartbeats 1000000 in
set_option maxRecDepth 100000 in
theorem vec_can:Pf C1 53 [] [vecS]:=by
  have h1:=vecR1
  have h2:=vecR2
  have h3:=vecR3
  refine run_intro Tryz.func53 rfl rfl rfl ?_
  repeat' ((conv=>whnf);first|refine gT ?_|refine gF ?_|refine VIf.not ?_|refine gA ?_|refine gB ?_|refine VIf.dec (fun h=>?_) (fun h=>?_)|refine gC ?_|refine gD ?_|refine VIf.mk (fun h=>?_) (fun h=>?_)|refine gO ?_|refine gP ?_|refine VNat.mk _ rfl ?_|refine gV ?_|refine vret_pf rfl ?_|refine vret_take rfl rfl ?_|refine vcall_pf h1 rfl rfl ?_|refine vcall_pf h2 rfl rfl ?_|refine vcall_pf h3 rfl rfl ?_|refine finds_pf h1 (fun _=>?_)|refine finds_pf h2 (fun _=>?_)|refine finds_pf h3 (fun _=>?_)|refine gK ?_)
  all_goals (try (conv=>whnf))
  first|rfl|exact ⟨[vecS],[],by kernel_rfl,rfl⟩
end Go.Proofs.YtehhihdahalfeaaGreatDoor
namespace Go.Proofs.YtehhihdahalfeaaGreatDoor
open Go Go.Am Go.Gw
def badT:PV:=(.ag [iv 6,iv 0,sv [],(.sl true 0 []),(.sl false 5 [(.ag [iv 2,iv 0,sv [],(.sl true 3 [(.ag [iv 1,iv 1,(.sl true 0 [])])]),(.sl true 0 [])]),(.ag [iv 6,iv 0,sv [],(.sl true 0 []),(.sl false 5 [(.ag [iv 6,iv 0,sv [],(.sl true 0 []),(.sl false 5 [(.ag [iv 4,iv 0,sv [],(.sl true 0 []),(.sl true 5 [(.ag [iv 3,iv 0,sv [116,114,101,101],(.sl true 0 []),(.sl true 0 [])]),(.ag [iv 1,iv 0,sv [],(.sl true 0 []),(.sl true 0 [])])])]),(.ag [iv 1,iv 1,sv [],(.sl true 0 []),(.sl true 0 [])])])]),(.ag [iv 4,iv 0,sv [],(.sl true 0 []),(.sl true 5 [(.ag [iv 3,iv 0,sv [116,114,101,101],(.sl true 0 []),(.sl true 0 [])]),(.ag [iv 1,iv 1,sv [],(.sl true 0 []),(.sl true 0 [])])])])])])])])
def badC:List PV:=[(.ag [sv [108,101,97,102],iv 6,iv 0,sv [],(.sl true 0 []),(.sl false 5 [(.ag [iv 2,iv 0,sv [],(.sl true 3 [(.ag [iv 1,iv 1,(.sl true 0 [])])]),(.sl true 0 [])]),(.ag [iv 4,iv 0,sv [],(.sl true 0 []),(.sl true 5 [(.ag [iv 3,iv 0,sv [116,114,101,101],(.sl true 0 []),(.sl true 0 [])]),(.ag [iv 1,iv 0,sv [],(.sl true 0 []),(.sl true 0 [])])])])])]),(.ag [sv [110,111,100,101],iv 6,iv 0,sv [],(.sl true 0 []),(.sl false 5 [(.ag [iv 2,iv 0,sv [],(.sl true 3 [(.ag [iv 1,iv 1,(.sl true 0 [])])]),(.sl true 0 [])]),(.ag [iv 6,iv 0,sv [],(.sl true 0 []),(.sl false 5 [(.ag [iv 6,iv 0,sv [],(.sl true 0 []),(.sl false 5 [(.ag [iv 4,iv 0,sv [],(.sl true 0 []),(.sl true 5 [(.ag [iv 3,iv 0,sv [116,114,101,101],(.sl true 0 []),(.sl true 0 [])]),(.ag [iv 1,iv 0,sv [],(.sl true 0 []),(.sl true 0 [])])])]),(.ag [iv 1,iv 1,sv [],(.sl true 0 []),(.sl true 0 [])])])]),(.ag [iv 4,iv 0,sv [],(.sl true 0 []),(.sl true 5 [(.ag [iv 3,iv 0,sv [116,114,101,101],(.sl true 0 []),(.sl true 0 [])]),(.ag [iv 1,iv 1,sv [],(.sl true 0 []),(.sl true 0 [])])])])])])])])]
def badS:PV:=.ag [iv 5,iv 0,sv [116,114,101,101],iv 6,iv 0,sv [],(.sl true 0 []),(.sl false 5 [(.ag [iv 2,iv 0,sv [],(.sl true 3 [(.ag [iv 1,iv 1,(.sl true 0 [])])]),(.sl true 0 [])]),(.ag [iv 2,iv 0,sv [],(.sl true 3 [(.ag [iv 1,iv 1,(.sl true 0 [])])]),(.sl true 0 [])])]),iv 0,iv 0,sv [],(.sl true 0 []),(.sl true 0 []),iv 1,.sl false 6 badC]
def fldV:PV:=(.ag [iv 6,iv 0,sv [],(.sl true 0 []),(.sl false 5 [(.ag [iv 1,iv 0,sv [],(.sl true 0 []),(.sl true 0 [])]),(.ag [iv 6,iv 0,sv [],(.sl true 0 []),(.sl false 5 [(.ag [iv 3,iv 0,sv [110,97,116],(.sl true 0 []),(.sl true 0 [])]),(.ag [iv 4,iv 0,sv [],(.sl true 0 []),(.sl true 5 [(.ag [iv 3,iv 0,sv [116,114,101,101],(.sl true 0 []),(.sl true 0 [])]),(.ag [iv 1,iv 2,sv [],(.sl true 0 []),(.sl true 0 [])])])])])])])])
def treeFm:PV:=(.ag [iv 0,iv 1,iv 1,(.sl true 0 []),(.sl false 3 [(.ag [(.sl false 5 []),(.sl false 5 []),(.sl true 0 [])]),(.ag [(.sl false 5 [(.ag [iv 6,iv 0,sv [],(.sl true 0 []),(.sl false 5 [(.ag [iv 1,iv 0,sv [],(.sl true 0 []),(.sl true 0 [])]),(.ag [iv 4,iv 0,sv [],(.sl true 0 []),(.sl false 5 [(.ag [iv 3,iv 0,sv [116,114,101,101],(.sl true 0 []),(.sl true 0 [])]),(.ag [iv 1,iv 1,sv [],(.sl true 0 []),(.sl true 0 [])])])])])])]),(.sl false 5 []),(.sl false 1 [iv 1])])])])
def famZ:PV:=.ag [iv 0,iv 0,iv 0,.sl true 0 [],.sl true 0 []]
theorem badR:Pf C1 31 [sv [40,62,32,40,42,32,49,41,32,40,62,32,40,62,32,40,116,114,101,101,32,35,48,41,32,35,49,41,32,40,116,114,101,101,32,35,49,41,41,41]] [badT]:=pf_of (st':=[]) 60 (by kernel_rfl)
theorem fldR:Pf C1 31 [sv [40,62,32,35,48,32,40,62,32,110,97,116,32,40,116,114,101,101,32,35,50,41,41,41]] [fldV]:=pf_of (st':=[]) 60 (by kernel_rfl)
theorem treeShape_can:Pf C1 23 [treeS] [treeFm,iv 0]:=pf_of (st':=[]) 60 (by kernel_rfl)
theorem badShape_can:Pf C1 23 [badS] [famZ,iv 21]:=pf_of (st':=[]) 60 (by kernel_rfl)
theorem fldArms_can:Pf C1 25 [treeS,fldV,iv 1] [iv 2,iv 0]:=pf_of (st':=[]) 60 (by kernel_rfl)
theorem vecTx:Pf C1 38 [(.ag [iv 4,iv 0,sv [],(.sl true 0 []),(.sl false 5 [(.ag [iv 3,iv 0,sv [110,97,116,46,115,117,99,99],(.sl true 0 []),(.sl true 0 [])]),(.ag [iv 1,iv 2,sv [],(.sl true 0 []),(.sl true 0 [])])])])] [sv [40,110,97,116,46,115,117,99,99,32,35,50,41]]:=pf_of (st':=[]) 60 (by kernel_rfl)
theorem vecLv:Pf C1 54 [(.ag [iv 3,iv 0,(.sl false 3 [(.ag [iv 2,iv 0,(.sl true 0 [])])])])] [sv [40,43,32,117,48,41]]:=pf_of (st':=[]) 60 (by kernel_rfl)
end Go.Proofs.YtehhihdahalfeaaGreatDoor
namespace Go.Proofs.YtehhihdahalfeaaGreatDoor
open Go Go.Am Go.Gw
set_option maxHeartbeats 1000000 in
set_option maxRecDepth 100000 in
theorem vecLarge:Pf C1 28 [vecF] [bv true]:=pf_of (st':=[]) 60 (by kernel_rfl)
set_option maxHeartbeats 4000000 in
set_option maxRecDepth 100000 in
theorem alive18_can:Pf C1 19 [] [bv true]:=by
  have h1:=vec_can
  have h2:=vecShape_can
  have h3:=treeShape_can
  have h4:=badR
  have h5:=badShape_can
  have h6:=fldR
  have h7:=fldArms_can
  have h8:=vecTx
  have h9:=vecLv
  have h10:=vecLarge
  refine run_intro Tryz.func19 rfl rfl rfl ?_
  repeat' ((conv=>whnf);first|refine gT ?_|refine gF ?_|refine VIf.not ?_|refine gA ?_|refine gB ?_|refine VIf.dec (fun h=>?_) (fun h=>?_)|refine gC ?_|refine gD ?_|refine VIf.mk (fun h=>?_) (fun h=>?_)|refine gO ?_|refine gP ?_|refine VNat.mk _ rfl ?_|refine gV ?_|refine vret_pf rfl ?_|refine vret_take rfl rfl ?_|refine vcall_pf h1 rfl rfl ?_|refine vcall_pf h2 rfl rfl ?_|refine vcall_hand rfl rfl h3 rfl ?_|refine vcall_pf h4 rfl rfl ?_|refine vcall_hand rfl rfl h5 rfl ?_|refine vcall_pf h6 rfl rfl ?_|refine vcall_hand rfl rfl h7 rfl ?_|refine vcall_pf h8 rfl rfl ?_|refine vcall_pf h9 rfl rfl ?_|refine vcall_pf h10 rfl rfl ?_|refine finds_pf h1 (fun _=>?_)|refine finds_pf h2 (fun _=>?_)|refine finds_pf h3 (fun _=>?_)|refine finds_pf h4 (fun _=>?_)|refine finds_pf h5 (fun _=>?_)|refine finds_pf h6 (fun _=>?_)|refine finds_pf h7 (fun _=>?_)|refine finds_pf h8 (fun _=>?_)|refine finds_pf h9 (fun _=>?_)|refine finds_pf h10 (fun _=>?_)|refine vcall_made rfl (finds_tree ⟨rfl,?_⟩)|refine finds_tree ?_|refine VPur.made rfl ?_|refine vback rfl ?_|refine VIdx.mk _ rfl ?_|refine vres_str ?_|refine gK ?_)
  all_goals (try (conv=>whnf))
  all_goals first
    |rfl
    |trace_state
end Go.Proofs.YtehhihdahalfeaaGreatDoor

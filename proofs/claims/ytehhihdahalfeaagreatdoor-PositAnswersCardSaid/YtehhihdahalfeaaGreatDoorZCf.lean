/-
  The plain machine's settings, and the functions that are taken at their word. No statement of the seat.
-/
import Derived.Test.YtehhihdahalfeaaGreatDoorZNs
import Derived.Test.YtehhihdahalfeaaGreatDoorZMa
set_option linter.unusedVariables false
set_option linter.unusedSimpArgs false
set_option linter.unnecessarySimpa false
namespace Go.Proofs.YtehhihdahalfeaaGreatDoor
open Go Go.Am Go.Hb
def memN (l:List Nat) (f:Nat):Bool:=match l with
  |[]=>false
  |g :: r=>match Nat.beq f g with
    |true=>true
    |false=>memN r f
def rawL:List Nat:=[176,132,165]
def keepL:List Nat:=[211,175,133,122,33]
def litL:List Nat:=[44]
def fzL:List Nat:=[135]
def fzcL:List Nat:=[117,85,92,177,130,91,78,81]
def natC:List (FuncId × NatF):=(176,sortN) :: (132,compN) :: (98,natP apartF) :: nat1
theorem natC_ok:∀ p ∈ natC,DoesOk (CallD Tryz.prog p.1) p.2:=by
  intro p hp
  unfold natC at hp
  rcases List.mem_cons.1 hp with rfl|hp
  · exact do_sort
  · rcases List.mem_cons.1 hp with rfl|hp
    · exact do_compact
    · rcases List.mem_cons.1 hp with rfl|hp
      · exact natAt_does nat_apart
      · exact nat1_ok p hp
noncomputable def C1:Cfg:=⟨Tryz.prog,memN fzL,memN rawL,memN keepL,memN litL,fun f=>natFind f natC,memN fzcL,fun _=>false,false⟩
theorem c1_nat:NatOk C1:=natOk_of (fun _=>rfl) natC_ok
theorem c1_ok (n:Nat):EvOk C1 (ev C1 n):=ev_ok (by kernel_rfl) (by kernel_rfl) c1_nat n
end Go.Proofs.YtehhihdahalfeaaGreatDoor

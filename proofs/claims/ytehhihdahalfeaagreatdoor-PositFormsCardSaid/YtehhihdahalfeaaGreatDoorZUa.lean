/-
  Terms with others in their variables' places: bind.Inst. No statement of the seat.
-/
import Derived.Test.YtehhihdahalfeaaGreatDoorZTj
set_option linter.unusedVariables false
set_option linter.unusedSimpArgs false
set_option linter.unnecessarySimpa false
namespace Go.Proofs.YtehhihdahalfeaaGreatDoor
open Go Go.Am Go.Gw
/-- what is handed over is free of the store once it is handed over -/
theorem vcall_hand {C : Cfg} {f : FuncId} {args args' rs : List PV} {st st' : Sto} {K : AEnd → Sto → Prop} (hw : handed C f args st = some (args', st')) (hp : args'.all (pur 8) = true) (h : Pf C f args' rs) (hr : rs.all (pur 8) = true) (k : K (.ret rs) st') : VCall C f args st K := by
  obtain ⟨r, st1, rfl, N, hN⟩ := h
  refine ⟨.ret rs, st', k, N, fun m hm => ?_⟩
  have h4 : endPur (.ret rs) = true := hr
  rw [acallS_eq hw]
  simp only [hp, hN m hm, h4]
/- the first of terms that is as told -/
def idxT (p : Tm → Bool) : List Tm → Nat → Int
  | [], _ => -1
  | t :: r, i => if p t = true then i else idxT p r (i + 1)
theorem idxT_any (p : Tm → Bool) : ∀ (ts : List Tm) (i : Nat), decide (0 ≤ idxT p ts i) = ts.any p
  | [], i => by simp [idxT]
  | t :: r, i => by
    rw [idxT, List.any_cons]
    by_cases h : p t = true
    · rw [if_pos h, h]
      simp
    · rw [if_neg h, idxT_any p r, Bool.eq_false_iff.2 h]
      simp
def InstF (t : Tm) (us : List Tm) : Option Tm := if anyT t = true ∧ us.length ≤ 1048576 ∧ us.all anyT = true then madeF (insF us) t else none
end Go.Proofs.YtehhihdahalfeaaGreatDoor

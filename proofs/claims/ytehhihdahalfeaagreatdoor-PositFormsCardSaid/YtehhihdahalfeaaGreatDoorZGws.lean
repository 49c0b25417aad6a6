/-
  Rows of the run's own: out of a block that was written out; looked at in the middle of a run. Plain lemmas.
-/
import Derived.Test.YtehhihdahalfeaaGreatDoorZGwa
import Derived.Lib.Strings
set_option linter.unusedVariables false
set_option linter.unusedSimpArgs false
set_option linter.unnecessarySimpa false
namespace Go.Gw
open Go
section
variable {E : Entry} {P : Program} {n : Nat} {K : Exit → St → Prop} {ρ : Env} {m : Mem} {μ : Own} {D : List Deferred} {ops : Array Oper} {rest : List Oper}
  {d : Nat} {ty : TypeId} {pos : String} {after : Array Edge}
variable {dst : Option Nat} {gd : Option (Nat × Bool)} {T T' : TypeId} {x y z : Operand} {i j : Int}
end
end Go.Gw
namespace Go.Gw
open Go
/-- a string's value, by its bytes -/
abbrev str (l : List UInt8) : Value := .string ⟨l.toArray⟩
theorem str_of (s : ByteArray) : Value.string s = str s.data.toList := by cases s; simp
theorem ba_toList (l : List UInt8) : (⟨l.toArray⟩ : ByteArray).toList = l := by rw [Lib.toList_data]
theorem ba_size (l : List UInt8) : (⟨l.toArray⟩ : ByteArray).size = l.length := by simp [ByteArray.size]
theorem ba_append (a b : List UInt8) : (⟨a.toArray⟩ : ByteArray) ++ (⟨b.toArray⟩ : ByteArray) = ⟨(a ++ b).toArray⟩ := by
  apply ByteArray.ext
  simp
theorem ba_extract (l : List UInt8) (i j : Nat) : (⟨l.toArray⟩ : ByteArray).extract i j = ⟨((l.drop i).take (j - i)).toArray⟩ := by
  apply ByteArray.ext
  simp [List.extract_eq_take_drop]
section
variable {E : Entry} {P : Program} {n : Nat} {ρ : Env} {m : Mem} {μ : Own} {ty : TypeId} {pos : String} {after : Array Edge}
variable {dst : Option Nat} {gd : Option (Nat × Bool)} {T T' : TypeId} {x y z : Operand} {i j : Int} {a b : List UInt8}
end
end Go.Gw

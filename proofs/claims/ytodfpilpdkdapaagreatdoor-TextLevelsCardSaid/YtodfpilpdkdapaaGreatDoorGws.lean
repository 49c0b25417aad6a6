/-
  Strings in walks: operations on them. Plain lemmas.
-/
import Derived.Test.YtodfpilpdkdapaaGreatDoorGwr
import Derived.Lib.Strings
namespace Go.Gw
open Go

/-- a string's value, by its bytes -/
abbrev str (l : List UInt8) : Value := .string ⟨l.toArray⟩
theorem str_of (s : ByteArray) : Value.string s = str s.data.toList := by cases s; simp
theorem ba_toList (l : List UInt8) : (⟨l.toArray⟩ : ByteArray).toList = l := by rw [Lib.toList_data]
theorem ba_size (l : List UInt8) : (⟨l.toArray⟩ : ByteArray).size = l.length := by simp [ByteArray.size]
theorem ba_append (a b : List UInt8) : (⟨a.toArray⟩ : ByteArray) ++ (⟨b.toArray⟩ : ByteArray) = ⟨(a ++ b).toArray⟩ := by
  apply ByteArray.ext
  simp
theorem ba_extract (l : List UInt8) (i j : Nat) : (⟨l.toArray⟩ : ByteArray).extract i j = ⟨((l.drop i).take (j - i)).toArray⟩ := by
  apply ByteArray.ext
  simp [List.extract_eq_take_drop]

section
variable {E : Entry} {P : Program} {n : Nat} {ρ : Env} {m : Mem} {μ : Own} {ty : TypeId} {pos : String} {after : Array Edge}
variable {dst : Option Nat} {gd : Option (Nat × Bool)} {T T' : TypeId} {x y z : Operand} {i j : Int} {a b : List UInt8}

theorem rn_addS (hx : ov ρ x = some (str a)) (hy : ov ρ y = some (str b)) (hb : a.length + b.length ≤ 9223372036854775807) : Rn P n ρ ⟨dst, .binOp .add T x y T', ty, pos, after, gd⟩ (str (a ++ b)) :=
  rn_bin hx hy (fun w => by simp [eqGuard]) (fun w => by
    have : ¬ (((⟨a.toArray⟩ : ByteArray).size + (⟨b.toArray⟩ : ByteArray).size : Nat) : Int) > IntKind.i64.max := by
      rw [ba_size, ba_size]
      simp [IntKind.max, IntKind.signed, IntKind.bits]
      omega
    simp only [binOp, Op.stringOp, if_neg this, Sem.run_pure, ba_append])
theorem rn_eqlS (hx : ov ρ x = some (str a)) (hy : ov ρ y = some (str b)) : Rn P n ρ ⟨dst, .binOp .eql T x y T', ty, pos, after, gd⟩ (.bool (a == b)) :=
  rn_bin hx hy (fun w => by simp [eqGuard]) (fun w => by simp only [binOp, Op.stringOp, Sem.run_pure, ba_toList])
theorem rn_neqS (hx : ov ρ x = some (str a)) (hy : ov ρ y = some (str b)) : Rn P n ρ ⟨dst, .binOp .neq T x y T', ty, pos, after, gd⟩ (.bool (!(a == b))) :=
  rn_bin hx hy (fun w => by simp [eqGuard]) (fun w => by simp only [binOp, Op.stringOp, Sem.run_pure, ba_toList])
theorem rn_lssS (hx : ov ρ x = some (str a)) (hy : ov ρ y = some (str b)) : Rn P n ρ ⟨dst, .binOp .lss T x y T', ty, pos, after, gd⟩ (.bool (Op.bytesLess a b)) :=
  rn_bin hx hy (fun w => by simp [eqGuard]) (fun w => by simp only [binOp, Op.stringOp, Sem.run_pure, ba_toList])
theorem rn_len_str (ht : P.underlying T = some .string) (hx : ov ρ x = some (str a)) : Rn P n ρ ⟨dst, .call ⟨.builtin .len, #[x], #[T]⟩, ty, pos, after, gd⟩ (.int .i64 (a.length : Int)) := fun w a' hf => by
  simp [execOp, resolve, invoke, builtin, Builtin.len_, hf.ov hx, run_underlying ht, ba_size]
  rfl
theorem rn_index_str {q : Nat} {c : UInt8} (ht : P.underlying T = some .string) (hx : ov ρ x = some (str a)) (hy : ov ρ y = some (.int .i64 i)) (hq : i = (q : Int)) (hc : a[q]? = some c) :
    Rn P n ρ ⟨dst, .index T x y, ty, pos, after, gd⟩ (.int .u8 (c.toNat : Int)) := fun w a' hf => by
  have hlt := (List.getElem?_eq_some_iff.1 hc).1
  have h0 : (0 : Int) ≤ i := by omega
  have h3 : i.toNat = q := by omega
  have hg : (⟨a.toArray⟩ : ByteArray)[q]? = some c := by
    have hs : q < (⟨a.toArray⟩ : ByteArray).size := by rw [ba_size]; exact hlt
    rw [getElem?_pos _ q hs]
    simpa [ByteArray.getElem_eq_getElem_data] using (List.getElem?_eq_some_iff.1 hc).2
  simp [execOp, Instr.index, hf.ov hx, hf.ov hy, asIntOf, run_underlying ht, h0, h3, hg]
theorem rn_slice_str_lo {q : Nat} (ht : P.underlying T = some .string) (hx : ov ρ x = some (str a)) (hy : ov ρ y = some (.int .i64 i)) (hq : i = (q : Int)) (hle : q ≤ a.length) :
    Rn P n ρ ⟨dst, .slice T x (some y) none none, ty, pos, after, gd⟩ (str (a.drop q)) := fun w a' hf => by
  have h0 : (0 : Int) ≤ i ∧ i ≤ (a.length : Int) := by omega
  have h3 : i.toNat = q := by omega
  simp [execOp, Instr.sliceAt, Instr.slice, Instr.sliceBounds, Instr.sliceBound, hf.ov hx, hf.ov hy, asIntOf, run_underlying ht, ba_size, h0, h3, ba_extract]
  exact List.take_of_length_le (by simp)
theorem rn_slice_str_hi {q : Nat} (ht : P.underlying T = some .string) (hx : ov ρ x = some (str a)) (hy : ov ρ y = some (.int .i64 i)) (hq : i = (q : Int)) (hle : q ≤ a.length) :
    Rn P n ρ ⟨dst, .slice T x none (some y) none, ty, pos, after, gd⟩ (str (a.take q)) := fun w a' hf => by
  have h0 : (0 : Int) ≤ i ∧ i ≤ (a.length : Int) := by omega
  have h3 : i.toNat = q := by omega
  simp [execOp, Instr.sliceAt, Instr.slice, Instr.sliceBounds, Instr.sliceBound, hf.ov hx, hf.ov hy, asIntOf, run_underlying ht, ba_size, h0, h3, ba_extract]
theorem rn_eqlU {k : IntKind} (hx : ov ρ x = some (.int k i)) (hy : ov ρ y = some (.int k j)) : Rn P n ρ ⟨dst, .binOp .eql T x y T', ty, pos, after, gd⟩ (.bool (decide (i = j))) :=
  rn_bin hx hy (fun w => by simp [eqGuard]) (fun w => by simp [binOp, Op.intCmp]; rfl)
theorem rn_neqU {k : IntKind} (hx : ov ρ x = some (.int k i)) (hy : ov ρ y = some (.int k j)) : Rn P n ρ ⟨dst, .binOp .neq T x y T', ty, pos, after, gd⟩ (.bool (!decide (i = j))) :=
  rn_bin hx hy (fun w => by simp [eqGuard]) (fun w => by simp [binOp, Op.intCmp]; rfl)
theorem rn_lssU {k : IntKind} (hx : ov ρ x = some (.int k i)) (hy : ov ρ y = some (.int k j)) : Rn P n ρ ⟨dst, .binOp .lss T x y T', ty, pos, after, gd⟩ (.bool (decide (i < j))) :=
  rn_bin hx hy (fun w => by simp [eqGuard]) (fun w => by simp [binOp, Op.intCmp])
theorem rn_leqU {k : IntKind} (hx : ov ρ x = some (.int k i)) (hy : ov ρ y = some (.int k j)) : Rn P n ρ ⟨dst, .binOp .leq T x y T', ty, pos, after, gd⟩ (.bool (decide (i ≤ j))) :=
  rn_bin hx hy (fun w => by simp [eqGuard]) (fun w => by simp [binOp, Op.intCmp])
theorem rn_gtrU {k : IntKind} (hx : ov ρ x = some (.int k i)) (hy : ov ρ y = some (.int k j)) : Rn P n ρ ⟨dst, .binOp .gtr T x y T', ty, pos, after, gd⟩ (.bool (decide (j < i))) :=
  rn_bin hx hy (fun w => by simp [eqGuard]) (fun w => by simp [binOp, Op.intCmp])
theorem rn_geqU {k : IntKind} (hx : ov ρ x = some (.int k i)) (hy : ov ρ y = some (.int k j)) : Rn P n ρ ⟨dst, .binOp .geq T x y T', ty, pos, after, gd⟩ (.bool (decide (j ≤ i))) :=
  rn_bin hx hy (fun w => by simp [eqGuard]) (fun w => by simp [binOp, Op.intCmp])
end
end Go.Gw

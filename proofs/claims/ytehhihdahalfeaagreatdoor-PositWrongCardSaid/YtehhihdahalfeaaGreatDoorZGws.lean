/-
  Rows of the run's own: out of a block that was written out; looked at in the middle of a run. Plain lemmas.
-/
import Derived.Test.YtehhihdahalfeaaGreatDoorZGwa
import Derived.Lib.Strings
set_option linter.unusedVariables false
set_option linter.unusedSimpArgs false
set_option linter.unnecessarySimpa false
namespace Go.Gw
open Go
section
variable {E : Entry} {P : Program} {n : Nat} {K : Exit → St → Prop} {ρ : Env} {m : Mem} {μ : Own} {D : List Deferred} {ops : Array Oper} {rest : List Oper}
  {d : Nat} {ty : TypeId} {pos : String} {after : Array Edge}
variable {dst : Option Nat} {gd : Option (Nat × Bool)} {T T' : TypeId} {x y z : Operand} {i j : Int}
theorem Good.rowOf {w : World} {q b len sz : Nat} {e : TypeId} {cs : List Value} (h : Good E w m μ) (hq : μ[q]? = some (bx b e cs)) (hl : cs.length = len * sz) (hm : len ≤ maxLen) :
    Good E w m (μ.set q (.row (.slice (some ⟨b, 0, none⟩) len len) e sz len cs)) :=
  h.turnAt hq rfl rfl rfl (Nat.le_refl _) (fun _ _ _ => rfl)
    ⟨hl, .inr ⟨b, len, cs.toArray, rfl, Nat.zero_le _, h.own hq, Nat.le_refl _, hm, by simpa using hl, by rw [List.toList_toArray, ← hl, List.take_length]⟩⟩
    (fun c hc => .inl (by simpa [Res.foot, Value.ownBlock] using hc))
theorem x_rowOf {c : Code} {q b len sz : Nat} {e : TypeId} {cs : List Value} (hq : μ[q]? = some (bx b e cs)) (hl : cs.length = len * sz) (hm : Nat.ble len 1000000 = true)
    (h : X E P n c ⟨ρ, m, μ.set q (.row (.slice (some ⟨b, 0, none⟩) len len) e sz len cs), D⟩ K) : X E P n c ⟨ρ, m, μ, D⟩ K :=
  fun w a hg hf => h w a (hg.rowOf hq hl (by have := Nat.le_of_ble_eq_true hm; unfold maxLen; omega)) hf.same
theorem xo_rowOf {q b len sz : Nat} {e : TypeId} {cs : List Value} (hq : μ[q]? = some (bx b e cs)) (hl : cs.length = len * sz) (hm : Nat.ble len 1000000 = true)
    (h : XO E P n ops rest ⟨ρ, m, μ.set q (.row (.slice (some ⟨b, 0, none⟩) len len) e sz len cs), D⟩ K) : XO E P n ops rest ⟨ρ, m, μ, D⟩ K :=
  fun w a hg hf => h w a (hg.rowOf hq hl (by have := Nat.le_of_ble_eq_true hm; unfold maxLen; omega)) hf.same
theorem xo_rowOpen {q n0 cap sz : Nat} {e : TypeId} {a0 : Option Addr} {xs : List Value} (hq : μ[q]? = some (.row (.slice a0 n0 cap) e sz n0 xs)) (hn : 0 < n0)
    (h : ∀ b, a0 = some ⟨b, 0, none⟩ → XO E P n ops rest ⟨ρ, m, μ, D⟩ K) : XO E P n ops rest ⟨ρ, m, μ, D⟩ K := fun w a hg hf => by
  have hown : w.ownsRow 0 e sz (.slice a0 n0 cap) n0 xs := hg.own hq
  rcases hown.2 with ⟨_, h0⟩ | ⟨g, cap', cur, hv, _⟩
  · omega
  · simp only [Value.slice.injEq] at hv
    exact h g hv.1 w a hg hf
theorem rl_row {ag : Bool} {q b off c n0 cap sz : Nat} {e : TypeId} {xs : List Value} {v : Value} (ht : tk P T = some (ag, c)) (hx : ov ρ x = some (.pointer (some ⟨b, off, none⟩)))
    (hq : μ[q]? = some (.row (.slice (some ⟨b, 0, none⟩) n0 cap) e sz n0 xs)) (hv : loadV ag xs off c = some v) :
    RnL E P n ρ m μ ⟨dst, .load T x, ty, pos, after, gd⟩ v := fun w a hg hf => by
  have hown : w.ownsRow 0 e sz (.slice (some ⟨b, 0, none⟩) n0 cap) n0 xs := hg.own hq
  simp [execOp, Instr.loadAt, hf.ov hx, Instr.sureAddr, run_loadVar_cells (w := w) (b := b) ht (fun j u hu => by
    have := hown.cells (g := b) rfl j u hu
    rwa [Addr.add_lit, Nat.zero_add] at this) hv]
theorem x_perm {c : Code} {μ' : Own} (hs : μ.Perm μ') (h : X E P n c ⟨ρ, m, μ', D⟩ K) : X E P n c ⟨ρ, m, μ, D⟩ K := fun w a hg hf => h w a (hg.perm hs) hf.same
theorem xo_perm {μ' : Own} (hs : μ.Perm μ') (h : XO E P n ops rest ⟨ρ, m, μ', D⟩ K) : XO E P n ops rest ⟨ρ, m, μ, D⟩ K := fun w a hg hf => h w a (hg.perm hs) hf.same
end
end Go.Gw
namespace Go.Gw
open Go
/-- a string's value, by its bytes -/
abbrev str (l : List UInt8) : Value := .string ⟨l.toArray⟩
theorem str_of (s : ByteArray) : Value.string s = str s.data.toList := by cases s; simp
theorem ba_toList (l : List UInt8) : (⟨l.toArray⟩ : ByteArray).toList = l := by rw [Lib.toList_data]
theorem ba_size (l : List UInt8) : (⟨l.toArray⟩ : ByteArray).size = l.length := by simp [ByteArray.size]
theorem ba_append (a b : List UInt8) : (⟨a.toArray⟩ : ByteArray) ++ (⟨b.toArray⟩ : ByteArray) = ⟨(a ++ b).toArray⟩ := by
  apply ByteArray.ext
  simp
theorem ba_extract (l : List UInt8) (i j : Nat) : (⟨l.toArray⟩ : ByteArray).extract i j = ⟨((l.drop i).take (j - i)).toArray⟩ := by
  apply ByteArray.ext
  simp [List.extract_eq_take_drop]
section
variable {E : Entry} {P : Program} {n : Nat} {ρ : Env} {m : Mem} {μ : Own} {ty : TypeId} {pos : String} {after : Array Edge}
variable {dst : Option Nat} {gd : Option (Nat × Bool)} {T T' : TypeId} {x y z : Operand} {i j : Int} {a b : List UInt8}
theorem rn_addS (hx : ov ρ x = some (str a)) (hy : ov ρ y = some (str b)) (hb : a.length + b.length ≤ 9223372036854775807) : Rn P n ρ ⟨dst, .binOp .add T x y T', ty, pos, after, gd⟩ (str (a ++ b)) :=
  rn_bin hx hy (fun w => by simp [eqGuard]) (fun w => by
    have : ¬ (((⟨a.toArray⟩ : ByteArray).size + (⟨b.toArray⟩ : ByteArray).size : Nat) : Int) > IntKind.i64.max := by
      rw [ba_size, ba_size]
      simp [IntKind.max, IntKind.signed, IntKind.bits]
      omega
    simp only [binOp, Op.stringOp, if_neg this, Sem.run_pure, ba_append])
theorem rn_eqlS (hx : ov ρ x = some (str a)) (hy : ov ρ y = some (str b)) : Rn P n ρ ⟨dst, .binOp .eql T x y T', ty, pos, after, gd⟩ (.bool (a == b)) :=
  rn_bin hx hy (fun w => by simp [eqGuard]) (fun w => by simp only [binOp, Op.stringOp, Sem.run_pure, ba_toList])
theorem rn_neqS (hx : ov ρ x = some (str a)) (hy : ov ρ y = some (str b)) : Rn P n ρ ⟨dst, .binOp .neq T x y T', ty, pos, after, gd⟩ (.bool (!(a == b))) :=
  rn_bin hx hy (fun w => by simp [eqGuard]) (fun w => by simp only [binOp, Op.stringOp, Sem.run_pure, ba_toList])
theorem rn_lssS (hx : ov ρ x = some (str a)) (hy : ov ρ y = some (str b)) : Rn P n ρ ⟨dst, .binOp .lss T x y T', ty, pos, after, gd⟩ (.bool (Op.bytesLess a b)) :=
  rn_bin hx hy (fun w => by simp [eqGuard]) (fun w => by simp only [binOp, Op.stringOp, Sem.run_pure, ba_toList])
theorem rn_len_str (ht : P.underlying T = some .string) (hx : ov ρ x = some (str a)) : Rn P n ρ ⟨dst, .call ⟨.builtin .len, #[x], #[T]⟩, ty, pos, after, gd⟩ (.int .i64 (a.length : Int)) := fun w a' hf => by
  simp [execOp, resolve, invoke, builtin, Builtin.len_, hf.ov hx, run_underlying ht, ba_size]
  rfl
theorem rn_index_str {q : Nat} {c : UInt8} (ht : P.underlying T = some .string) (hx : ov ρ x = some (str a)) (hy : ov ρ y = some (.int .i64 i)) (hq : i = (q : Int)) (hc : a[q]? = some c) :
    Rn P n ρ ⟨dst, .index T x y, ty, pos, after, gd⟩ (.int .u8 (c.toNat : Int)) := fun w a' hf => by
  have hlt := (List.getElem?_eq_some_iff.1 hc).1
  have h0 : (0 : Int) ≤ i := by omega
  have h3 : i.toNat = q := by omega
  have hg : (⟨a.toArray⟩ : ByteArray)[q]? = some c := by
    have hs : q < (⟨a.toArray⟩ : ByteArray).size := by rw [ba_size]; exact hlt
    rw [getElem?_pos _ q hs]
    simpa [ByteArray.getElem_eq_getElem_data] using (List.getElem?_eq_some_iff.1 hc).2
  simp [execOp, Instr.index, hf.ov hx, hf.ov hy, asIntOf, run_underlying ht, h0, h3, hg]
theorem rn_slice_str_lo {q : Nat} (ht : P.underlying T = some .string) (hx : ov ρ x = some (str a)) (hy : ov ρ y = some (.int .i64 i)) (hq : i = (q : Int)) (hle : q ≤ a.length) :
    Rn P n ρ ⟨dst, .slice T x (some y) none none, ty, pos, after, gd⟩ (str (a.drop q)) := fun w a' hf => by
  have h0 : (0 : Int) ≤ i ∧ i ≤ (a.length : Int) := by omega
  have h3 : i.toNat = q := by omega
  simp [execOp, Instr.sliceAt, Instr.slice, Instr.sliceBounds, Instr.sliceBound, hf.ov hx, hf.ov hy, asIntOf, run_underlying ht, ba_size, h0, h3, ba_extract]
  exact List.take_of_length_le (by simp)
theorem rn_slice_str_hi {q : Nat} (ht : P.underlying T = some .string) (hx : ov ρ x = some (str a)) (hy : ov ρ y = some (.int .i64 i)) (hq : i = (q : Int)) (hle : q ≤ a.length) :
    Rn P n ρ ⟨dst, .slice T x none (some y) none, ty, pos, after, gd⟩ (str (a.take q)) := fun w a' hf => by
  have h0 : (0 : Int) ≤ i ∧ i ≤ (a.length : Int) := by omega
  have h3 : i.toNat = q := by omega
  simp [execOp, Instr.sliceAt, Instr.slice, Instr.sliceBounds, Instr.sliceBound, hf.ov hx, hf.ov hy, asIntOf, run_underlying ht, ba_size, h0, h3, ba_extract]
theorem rn_eqlU {k : IntKind} (hx : ov ρ x = some (.int k i)) (hy : ov ρ y = some (.int k j)) : Rn P n ρ ⟨dst, .binOp .eql T x y T', ty, pos, after, gd⟩ (.bool (decide (i = j))) :=
  rn_bin hx hy (fun w => by simp [eqGuard]) (fun w => by simp [binOp, Op.intCmp]; rfl)
theorem rn_neqU {k : IntKind} (hx : ov ρ x = some (.int k i)) (hy : ov ρ y = some (.int k j)) : Rn P n ρ ⟨dst, .binOp .neq T x y T', ty, pos, after, gd⟩ (.bool (!decide (i = j))) :=
  rn_bin hx hy (fun w => by simp [eqGuard]) (fun w => by simp [binOp, Op.intCmp]; rfl)
theorem rn_lssU {k : IntKind} (hx : ov ρ x = some (.int k i)) (hy : ov ρ y = some (.int k j)) : Rn P n ρ ⟨dst, .binOp .lss T x y T', ty, pos, after, gd⟩ (.bool (decide (i < j))) :=
  rn_bin hx hy (fun w => by simp [eqGuard]) (fun w => by simp [binOp, Op.intCmp])
theorem rn_leqU {k : IntKind} (hx : ov ρ x = some (.int k i)) (hy : ov ρ y = some (.int k j)) : Rn P n ρ ⟨dst, .binOp .leq T x y T', ty, pos, after, gd⟩ (.bool (decide (i ≤ j))) :=
  rn_bin hx hy (fun w => by simp [eqGuard]) (fun w => by simp [binOp, Op.intCmp])
theorem rn_gtrU {k : IntKind} (hx : ov ρ x = some (.int k i)) (hy : ov ρ y = some (.int k j)) : Rn P n ρ ⟨dst, .binOp .gtr T x y T', ty, pos, after, gd⟩ (.bool (decide (j < i))) :=
  rn_bin hx hy (fun w => by simp [eqGuard]) (fun w => by simp [binOp, Op.intCmp])
theorem rn_geqU {k : IntKind} (hx : ov ρ x = some (.int k i)) (hy : ov ρ y = some (.int k j)) : Rn P n ρ ⟨dst, .binOp .geq T x y T', ty, pos, after, gd⟩ (.bool (decide (j ≤ i))) :=
  rn_bin hx hy (fun w => by simp [eqGuard]) (fun w => by simp [binOp, Op.intCmp])
end
end Go.Gw

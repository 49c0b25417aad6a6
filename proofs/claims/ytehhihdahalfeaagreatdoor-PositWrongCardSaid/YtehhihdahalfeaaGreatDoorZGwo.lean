/-
  The operations of the model, one lemma each, over the small logic of blocks. Plain lemmas, no statement of the seat.
-/
import Derived.Test.YtehhihdahalfeaaGreatDoorZGw
set_option linter.unusedVariables false
set_option linter.unusedSimpArgs false
set_option linter.unnecessarySimpa false
namespace Go.Gw
open Go
theorem ne_t {b : Bool} (h : b ≠ true) : b = false := by cases b <;> simp_all
theorem ne_f {b : Bool} (h : b ≠ false) : b = true := by cases b <;> simp_all
def i64 (n : Int) : Prop := -9223372036854775808 ≤ n ∧ n ≤ 9223372036854775807
theorem wrap_i64 {n : Int} (h : i64 n) : IntKind.i64.wrap n = n := IntWalk.i64_in n h
/-! ### what is asked of the program's tables -/
def isAggD : TypeDesc → Bool
  | .struct _ => true
  | .array _ _ => true
  | _ => false
/-- is it an aggregate, and of how many cells -/
def tk (P : Program) (T : TypeId) : Option (Bool × Nat) :=
  match P.underlying T, P.info? T with
  | some d, some i => some (isAggD d, i.size)
  | _, _ => none
/-- a field's offset -/
def tf (P : Program) (T : TypeId) (f : Nat) : Option Nat :=
  match P.underlying T with
  | some (.struct fs) => match fs[f]? with
    | some fd => match P.info? fd.type with
      | some i => if i.size = 0 then none else some fd.offset
      | none => none
    | none => none
  | _ => none
/-- a zero value -/
def tz (P : Program) (T : TypeId) : Option Value := (P.info? T).bind fun i => i.zero
/-- a slice's element, and how many cells it has -/
def tsl (P : Program) (T : TypeId) : Option (TypeId × Nat) :=
  match P.underlying T with
  | some (.slice e) => (P.info? e).map fun i => (e, i.size)
  | _ => none
/-- an array's length, element, and how many cells that has -/
def tar (P : Program) (T : TypeId) : Option (Nat × TypeId × Nat) :=
  match P.underlying T with
  | some (.array k e) => (P.info? e).map fun i => (k, e, i.size)
  | _ => none
/-- a struct's places -/
def tpl (P : Program) (T : TypeId) : Option (List (Nat × Nat)) :=
  match P.underlying T with
  | some (.struct fs) => fs.toList.mapM fun f => (P.info? f.type).map fun i => (f.offset, i.size)
  | _ => none
abbrev bx (b : Nat) (T : TypeId) (cs : List Value) : Res := .blk b (.cells cs.toArray T (0, 0))
/-- a cell that is known for good -/
def Rd (m : Mem) (b off : Nat) (v : Value) : Prop := ∃ c T fr, m b = some (.cells c T fr) ∧ c[off]? = some v
/-- a run of cells -/
def RdN (m : Mem) (b off : Nat) (vs : List Value) : Prop := ∀ j v, vs[j]? = some v → Rd m b (off + j) v
theorem Rd.mono {m m' : Mem} {b off : Nat} {v : Value} (h : Rd m b off v) (hle : Mem.le m m') : Rd m' b off v := by
  obtain ⟨c, T, fr, h1, h2⟩ := h
  exact ⟨c, T, fr, hle _ _ h1, h2⟩
theorem RdN.mono {m m' : Mem} {b off : Nat} {vs : List Value} (h : RdN m b off vs) (hle : Mem.le m m') : RdN m' b off vs := fun j v hv => (h j v hv).mono hle
theorem Good.cell {E : Entry} {w : World} {m : Mem} {μ : Own} (h : Good E w m μ) {b off : Nat} {v : Value} (hr : Rd m b off v) : w.cell? ⟨b, off, none⟩ = some v := by
  obtain ⟨c, T, fr, h1, h2⟩ := hr
  simp [World.cell?, h.sub _ _ h1, h2]
theorem Good.own {E : Entry} {w : World} {m : Mem} {μ : Own} (h : Good E w m μ) {i : Nat} {r : Res} (hi : μ[i]? = some r) : r.holds w := h.holds r (List.mem_of_getElem? hi)
theorem cell_of_cells {w : World} {b off : Nat} {cs : List Value} {T : TypeId} {fr : Nat × Nat} {v : Value} (h : w.heap[b]? = some (.cells cs.toArray T fr)) (hv : cs[off]? = some v) : w.cell? ⟨b, off, none⟩ = some v := by
  simp [World.cell?, h, hv]
/-- a part of cells -/
def cut (cs : List Value) (off k : Nat) : List Value := (cs.drop off).take k
section
variable {E : Entry} {P : Program} {n : Nat} {K : Exit → St → Prop} {ρ : Env} {m : Mem} {μ : Own} {D : List Deferred} {ops : Array Oper} {rest : List Oper}
  {d : Nat} {ty : TypeId} {pos : String} {after : Array Edge}
theorem x_region {s : St} {id : Nat} {l : List Oper} (h : XO E P n l.toArray l s K) : X E P n (.region id l.toArray false) s K :=
  fun w a hg hf => wp_region_lit (h w a hg hf)
theorem xo_nil {s : St} (h : K .normal s) : XO E P n ops [] s K := fun w a hg hf => wpList_nil ⟨s, hg, hf, h⟩
theorem xo_val {op : Op} (v : Value) (m' : Mem) (μ' : Own) (hd : Nat.blt d n = true)
    (h : ∀ w a, Good E w m μ → Fits n ⟨ρ, m, μ, D⟩ a → ∃ w', (execOp a.eval ⟨some d, op, ty, pos, after, none⟩).run P w = .ok (.value v) w' ∧ Good E w' m' μ')
    (k : XO E P n ops rest ⟨(d, v) :: ρ, m', μ', D⟩ K) : XO E P n ops (⟨some d, op, ty, pos, after, none⟩ :: rest) ⟨ρ, m, μ, D⟩ K := fun w a hg hf => by
  obtain ⟨w', hr, hg'⟩ := h w a hg hf
  refine wpList_plain rfl fun K' hK' => ?_
  unfold Oper.wp
  rw [hr]
  exact hK' _ _ (k w' _ hg' (hf.put d v hd))
theorem xo_unit {op : Op} (m' : Mem) (μ' : Own)
    (h : ∀ w a, Good E w m μ → Fits n ⟨ρ, m, μ, D⟩ a → ∃ w', (execOp a.eval ⟨none, op, ty, pos, after, none⟩).run P w = .ok .skip w' ∧ Good E w' m' μ')
    (k : XO E P n ops rest ⟨ρ, m', μ', D⟩ K) : XO E P n ops (⟨none, op, ty, pos, after, none⟩ :: rest) ⟨ρ, m, μ, D⟩ K := fun w a hg hf => by
  obtain ⟨w', hr, hg'⟩ := h w a hg hf
  refine wpList_plain rfl fun K' hK' => ?_
  unfold Oper.wp
  rw [hr]
  exact hK' _ _ (k w' _ hg' hf.same)
structure FitsE (n : Nat) (ρ : Env) (a : Act) : Prop where
  size : a.tmps.size = n
  get : ∀ t v, eget ρ t = some v → a.tmps[t]? = some v
theorem FitsE.fits {a : Act} (h : FitsE n ρ a) (m : Mem) (μ : Own) : Fits n ⟨ρ, m, μ, a.defers⟩ a := ⟨h.size, h.get, rfl⟩
theorem FitsE.ov {a : Act} (h : FitsE n ρ a) {x : Operand} {v : Value} (hx : ov ρ x = some v) : a.eval x = v := (h.fits (fun _ => none) []).ov hx
theorem Fits.e {a : Act} (h : Fits n ⟨ρ, m, μ, D⟩ a) : FitsE n ρ a := ⟨h.size, h.get⟩
/-- an operation that asks nothing of memory -/
def Rn (P : Program) (n : Nat) (ρ : Env) (o : Oper) (v : Value) : Prop := ∀ w a, FitsE n ρ a → (execOp a.eval o).run P w = .ok (.value v) w
/-- an operation that looks at memory -/
def RnL (E : Entry) (P : Program) (n : Nat) (ρ : Env) (m : Mem) (μ : Own) (o : Oper) (v : Value) : Prop := ∀ w a, Good E w m μ → FitsE n ρ a → (execOp a.eval o).run P w = .ok (.value v) w
theorem xo_rn {op : Op} {v : Value} (hd : Nat.blt d n = true) (h : Rn P n ρ ⟨some d, op, ty, pos, after, none⟩ v)
    (k : XO E P n ops rest ⟨(d, v) :: ρ, m, μ, D⟩ K) : XO E P n ops (⟨some d, op, ty, pos, after, none⟩ :: rest) ⟨ρ, m, μ, D⟩ K :=
  xo_val v m μ hd (fun w a hg hf => ⟨w, h w a hf.e, hg⟩) k
theorem xo_rl {op : Op} {v : Value} (hd : Nat.blt d n = true) (h : RnL E P n ρ m μ ⟨some d, op, ty, pos, after, none⟩ v)
    (k : XO E P n ops rest ⟨(d, v) :: ρ, m, μ, D⟩ K) : XO E P n ops (⟨some d, op, ty, pos, after, none⟩ :: rest) ⟨ρ, m, μ, D⟩ K :=
  xo_val v m μ hd (fun w a hg hf => ⟨w, h w a hg hf.e, hg⟩) k
variable {dst : Option Nat} {gd : Option (Nat × Bool)} {T T' : TypeId} {x y z : Operand} {i j : Int}
theorem rn_cast {o : Oper} {v v' : Value} (h : Rn P n ρ o v) (e : v = v') : Rn P n ρ o v' := e ▸ h
theorem rl_cast {o : Oper} {v v' : Value} (h : RnL E P n ρ m μ o v) (e : v = v') : RnL E P n ρ m μ o v' := e ▸ h
theorem rn_move {v : Value} (hx : ov ρ x = some v) : Rn P n ρ ⟨dst, .move x, ty, pos, after, gd⟩ v := fun w a hf => by simp [execOp, hf.ov hx]
theorem rn_assign {v : Value} (hx : ov ρ x = some v) : Rn P n ρ ⟨dst, .assign x, ty, pos, after, gd⟩ v := fun w a hf => by simp [execOp, hf.ov hx]
theorem rn_pick_t {b : Bool} {v : Value} (hc : ov ρ z = some (.bool b)) (hb : b = true) (hx : ov ρ x = some v) : Rn P n ρ ⟨dst, .pick z x y, ty, pos, after, gd⟩ v := fun w a hf => by
  subst hb; simp [execOp, hf.ov hc, asBool, hf.ov hx]
theorem rn_pick_f {b : Bool} {v : Value} (hc : ov ρ z = some (.bool b)) (hb : b = false) (hx : ov ρ y = some v) : Rn P n ρ ⟨dst, .pick z x y, ty, pos, after, gd⟩ v := fun w a hf => by
  subst hb; simp [execOp, hf.ov hc, asBool, hf.ov hx]
theorem rn_nilCheck {p : Addr} (hx : ov ρ x = some (.pointer (some p))) : Rn P n ρ ⟨dst, .nilCheck x, ty, pos, after, gd⟩ (.pointer (some p)) := fun w a hf => by simp [execOp, hf.ov hx]
theorem rn_extract {vs : Array Value} {q : Nat} {v : Value} (hx : ov ρ x = some (.tuple vs)) (hv : vs[q]? = some v) : Rn P n ρ ⟨dst, .extract x q, ty, pos, after, gd⟩ v := fun w a hf => by
  simp [execOp, hf.ov hx, Instr.extract, hv]
/-! integers -/
theorem rn_bin {op : BinOp} {u v r : Value} (hx : ov ρ x = some u) (hy : ov ρ y = some v) (hr : ∀ w, (eqGuard op T x y u v).run P w = .ok () w) (hb : ∀ w, (binOp op T u v).run P w = .ok r w) :
    Rn P n ρ ⟨dst, .binOp op T x y T', ty, pos, after, gd⟩ r := fun w a hf => by simp [execOp, hf.ov hx, hf.ov hy, hr, hb]
theorem rn_add (hx : ov ρ x = some (.int .i64 i)) (hy : ov ρ y = some (.int .i64 j)) : Rn P n ρ ⟨dst, .binOp .add T x y T', ty, pos, after, gd⟩ (.int .i64 (IntKind.i64.wrap (i + j))) :=
  rn_bin hx hy (fun w => by simp [eqGuard]) (fun w => by simp [binOp, Op.intArith])
theorem rn_sub (hx : ov ρ x = some (.int .i64 i)) (hy : ov ρ y = some (.int .i64 j)) : Rn P n ρ ⟨dst, .binOp .sub T x y T', ty, pos, after, gd⟩ (.int .i64 (IntKind.i64.wrap (i - j))) :=
  rn_bin hx hy (fun w => by simp [eqGuard]) (fun w => by simp [binOp, Op.intArith])
theorem rn_mul (hx : ov ρ x = some (.int .i64 i)) (hy : ov ρ y = some (.int .i64 j)) : Rn P n ρ ⟨dst, .binOp .mul T x y T', ty, pos, after, gd⟩ (.int .i64 (IntKind.i64.wrap (i * j))) :=
  rn_bin hx hy (fun w => by simp [eqGuard]) (fun w => by simp [binOp, Op.intArith])
theorem rn_lss (hx : ov ρ x = some (.int .i64 i)) (hy : ov ρ y = some (.int .i64 j)) : Rn P n ρ ⟨dst, .binOp .lss T x y T', ty, pos, after, gd⟩ (.bool (decide (i < j))) :=
  rn_bin hx hy (fun w => by simp [eqGuard]) (fun w => by simp [binOp, Op.intCmp])
theorem rn_leq (hx : ov ρ x = some (.int .i64 i)) (hy : ov ρ y = some (.int .i64 j)) : Rn P n ρ ⟨dst, .binOp .leq T x y T', ty, pos, after, gd⟩ (.bool (decide (i ≤ j))) :=
  rn_bin hx hy (fun w => by simp [eqGuard]) (fun w => by simp [binOp, Op.intCmp])
theorem rn_gtr (hx : ov ρ x = some (.int .i64 i)) (hy : ov ρ y = some (.int .i64 j)) : Rn P n ρ ⟨dst, .binOp .gtr T x y T', ty, pos, after, gd⟩ (.bool (decide (j < i))) :=
  rn_bin hx hy (fun w => by simp [eqGuard]) (fun w => by simp [binOp, Op.intCmp])
theorem rn_geq (hx : ov ρ x = some (.int .i64 i)) (hy : ov ρ y = some (.int .i64 j)) : Rn P n ρ ⟨dst, .binOp .geq T x y T', ty, pos, after, gd⟩ (.bool (decide (j ≤ i))) :=
  rn_bin hx hy (fun w => by simp [eqGuard]) (fun w => by simp [binOp, Op.intCmp])
theorem rn_eql (hx : ov ρ x = some (.int .i64 i)) (hy : ov ρ y = some (.int .i64 j)) : Rn P n ρ ⟨dst, .binOp .eql T x y T', ty, pos, after, gd⟩ (.bool (decide (i = j))) :=
  rn_bin hx hy (fun w => by simp [eqGuard]) (fun w => by simp [binOp, Op.intCmp]; rfl)
theorem rn_neq (hx : ov ρ x = some (.int .i64 i)) (hy : ov ρ y = some (.int .i64 j)) : Rn P n ρ ⟨dst, .binOp .neq T x y T', ty, pos, after, gd⟩ (.bool (!decide (i = j))) :=
  rn_bin hx hy (fun w => by simp [eqGuard]) (fun w => by simp [binOp, Op.intCmp]; rfl)
theorem rn_addN (hx : ov ρ x = some (.int .i64 i)) (hy : ov ρ y = some (.int .i64 j)) (hb : i64 (i + j)) : Rn P n ρ ⟨dst, .binOp .add T x y T', ty, pos, after, gd⟩ (.int .i64 (i + j)) := by
  have h := rn_add (P := P) (n := n) (dst := dst) (gd := gd) (ty := ty) (pos := pos) (after := after) (T := T) (T' := T') hx hy
  rwa [wrap_i64 hb] at h
theorem rn_subN (hx : ov ρ x = some (.int .i64 i)) (hy : ov ρ y = some (.int .i64 j)) (hb : i64 (i - j)) : Rn P n ρ ⟨dst, .binOp .sub T x y T', ty, pos, after, gd⟩ (.int .i64 (i - j)) := by
  have h := rn_sub (P := P) (n := n) (dst := dst) (gd := gd) (ty := ty) (pos := pos) (after := after) (T := T) (T' := T') hx hy
  rwa [wrap_i64 hb] at h
theorem rn_mulN (hx : ov ρ x = some (.int .i64 i)) (hy : ov ρ y = some (.int .i64 j)) (hb : i64 (i * j)) : Rn P n ρ ⟨dst, .binOp .mul T x y T', ty, pos, after, gd⟩ (.int .i64 (i * j)) := by
  have h := rn_mul (P := P) (n := n) (dst := dst) (gd := gd) (ty := ty) (pos := pos) (after := after) (T := T) (T' := T') hx hy
  rwa [wrap_i64 hb] at h
theorem rn_shr {q : Nat} (hx : ov ρ x = some (.int .i64 i)) (hy : ov ρ y = some (.int .i64 j)) (hq : j = (q : Int)) (hlt : q ≤ 63) : Rn P n ρ ⟨dst, .binOp .shr T x y T', ty, pos, after, gd⟩ (.int .i64 (i / 2 ^ q)) :=
  rn_bin hx hy (fun w => by simp [eqGuard]) (fun w => by
    have h1 : ¬ j < 0 := by omega
    have h2 : min j.toNat IntKind.i64.bits = q := by simp [IntKind.bits]; omega
    have h3 : i.fdiv (2 ^ q) = i / 2 ^ q := Int.fdiv_eq_ediv_of_nonneg i (Int.le_of_lt (Int.pow_pos (by omega)))
    simp only [binOp, Op.shift, if_neg h1, h2, h3]
    rfl)
theorem and_one_small : ∀ k : Fin 64, IntKind.i64.wrap ((BitVec.ofInt IntKind.i64.bits (k.val : Int) &&& BitVec.ofInt IntKind.i64.bits 1).toNat) = ((k.val % 2 : Nat) : Int) := by decide +kernel
theorem rn_and1 (hx : ov ρ x = some (.int .i64 i)) (hy : ov ρ y = some (.int .i64 1)) (h0 : 0 ≤ i) (h1 : i < 64) : Rn P n ρ ⟨dst, .binOp .and T x y T', ty, pos, after, gd⟩ (.int .i64 (i % 2)) :=
  rn_bin hx hy (fun w => by simp [eqGuard]) (fun w => by
    have h := and_one_small ⟨i.toNat, by omega⟩
    simp only [Int.toNat_of_nonneg h0] at h
    have e : ((i.toNat % 2 : Nat) : Int) = i % 2 := by omega
    rw [e] at h
    simp only [binOp, ne_eq, not_true_eq_false, if_false, Op.intBits]
    rw [← h]
    rfl)
theorem rn_not {b : Bool} (hx : ov ρ x = some (.bool b)) : Rn P n ρ ⟨dst, .unOp .not T x, ty, pos, after, gd⟩ (.bool (!b)) := fun w a hf => by simp [execOp, hf.ov hx, Op.unary]
theorem rn_eqlB {b c : Bool} (hT : P.underlying T = some .bool) (hx : ov ρ x = some (.bool b)) (hy : ov ρ y = some (.bool c)) : Rn P n ρ ⟨dst, .binOp .eql T x y T', ty, pos, after, gd⟩ (.bool (b == c)) :=
  rn_bin hx hy (fun w => by simp [eqGuard]) (fun w => run_eql_bool w T b c hT)
theorem rn_neqB {b c : Bool} (hT : P.underlying T = some .bool) (hx : ov ρ x = some (.bool b)) (hy : ov ρ y = some (.bool c)) : Rn P n ρ ⟨dst, .binOp .neq T x y T', ty, pos, after, gd⟩ (.bool (!(b == c))) :=
  rn_bin hx hy (fun w => by simp [eqGuard]) (fun w => run_neq_bool w T b c hT)
/-! builtins -/
theorem rn_len_slice {a : Option Addr} {l c : Nat} {e : TypeId × Nat} (ht : tsl P T = some e) (hx : ov ρ x = some (.slice a l c)) : Rn P n ρ ⟨dst, .call ⟨.builtin .len, #[x], #[T]⟩, ty, pos, after, gd⟩ (.int .i64 (l : Int)) := fun w a hf => by
  unfold tsl at ht
  split at ht
  · rename_i e' he
    simp [execOp, resolve, invoke, builtin, Builtin.len_, hf.ov hx, run_underlying he, goInt]
  · cases ht
theorem rn_max (hx : ov ρ x = some (.int .i64 i)) (hy : ov ρ y = some (.int .i64 j)) : Rn P n ρ ⟨dst, .call ⟨.builtin .max, #[x, y], #[T, T']⟩, ty, pos, after, gd⟩ (.int .i64 (max i j)) := fun w a hf => by
  have h : (if i < j then j else i) = max i j := by split <;> omega
  simp [execOp, resolve, invoke, builtin, Builtin.max_, Builtin.max2, hf.ov hx, hf.ov hy, h]
theorem rn_min (hx : ov ρ x = some (.int .i64 i)) (hy : ov ρ y = some (.int .i64 j)) : Rn P n ρ ⟨dst, .call ⟨.builtin .min, #[x, y], #[T, T']⟩, ty, pos, after, gd⟩ (.int .i64 (min i j)) := fun w a hf => by
  have h : (if j < i then j else i) = min i j := by split <;> omega
  simp [execOp, resolve, invoke, builtin, Builtin.min_, Builtin.min2, hf.ov hx, hf.ov hy, h]
/-! addresses -/
theorem rn_fieldAddr {f o b off : Nat} (ht : tf P T f = some o) (hx : ov ρ x = some (.pointer (some ⟨b, off, none⟩))) : Rn P n ρ ⟨dst, .fieldAddr T x f, ty, pos, after, gd⟩ (.pointer (some ⟨b, off + o, none⟩)) := fun w a hf => by
  unfold tf at ht
  split at ht
  · rename_i fs hfs
    split at ht
    · rename_i fd hfd
      split at ht
      · rename_i i hi
        split at ht
        · cases ht
        · rename_i hne
          cases ht
          simp [execOp, Instr.fieldAt, hf.ov hx, run_underlying hfs, hfd, Instr.sureAddr, fieldPlace, sizeOf, typeInfo, hi, hne, Addr.add_lit]
      · cases ht
    · cases ht
  · cases ht
theorem rn_indexAddr {l c b off q sz : Nat} {e : TypeId} (ht : tsl P T = some (e, sz)) (hx : ov ρ x = some (.slice (some ⟨b, off, none⟩) l c)) (hy : ov ρ y = some (.int .i64 i)) (hq : i = (q : Int)) (hlt : q < l) :
    Rn P n ρ ⟨dst, .indexAddr T x y, ty, pos, after, gd⟩ (.pointer (some ⟨b, off + q * sz, none⟩)) := fun w a hf => by
  unfold tsl at ht
  split at ht
  · rename_i e' he
    cases hi : P.info? e' with
    | none => simp [hi] at ht
    | some ii =>
      simp [hi] at ht
      obtain ⟨rfl, rfl⟩ := ht
      have h1 : (0 : Int) ≤ i := by omega
      have h2 : i < (l : Int) := by omega
      have h3 : i.toNat = q := by omega
      simp [execOp, Instr.indexAt, hf.ov hx, hf.ov hy, asIntOf, run_underlying he, h1, h2, h3, sizeOf, typeInfo, hi, Addr.add_lit]
  · cases ht
theorem rn_indexAddr_arr {l b off q sz : Nat} {e : TypeId} (ht : tar P T = some (l, e, sz)) (hx : ov ρ x = some (.pointer (some ⟨b, off, none⟩))) (hy : ov ρ y = some (.int .i64 i)) (hq : i = (q : Int)) (hlt : q < l) :
    Rn P n ρ ⟨dst, .indexAddr T x y, ty, pos, after, gd⟩ (.pointer (some ⟨b, off + q * sz, none⟩)) := fun w a hf => by
  unfold tar at ht
  split at ht
  · rename_i l' e' he
    cases hi : P.info? e' with
    | none => simp [hi] at ht
    | some ii =>
      simp [hi] at ht
      obtain ⟨rfl, rfl, rfl⟩ := ht
      have h1 : (0 : Int) ≤ i := by omega
      have h2 : i < (l' : Int) := by omega
      have h3 : i.toNat = q := by omega
      simp [execOp, Instr.indexAt, hf.ov hx, hf.ov hy, asIntOf, run_underlying he, h1, h2, h3, sizeOf, typeInfo, hi, Addr.add_lit, Instr.sureAddr]
  · cases ht
/-- an element of an array that is a value -/
theorem rn_index_arr {l q : Nat} {e : TypeId} {cs : List Value} {v : Value} (ht : tar P T = some (l, e, 1)) (he : tk P e = some (false, 1)) (hx : ov ρ x = some (.agg cs.toArray)) (hy : ov ρ y = some (.int .i64 i)) (hq : i = (q : Int)) (hlt : q < l) (hv : cs[q]? = some v) :
    Rn P n ρ ⟨dst, .index T x y, ty, pos, after, gd⟩ v := fun w a hf => by
  unfold tar at ht
  split at ht
  · rename_i l' e' hu
    cases hi : P.info? e' with
    | none => simp [hi] at ht
    | some ii =>
      simp [hi] at ht
      obtain ⟨rfl, rfl, h5⟩ := ht
      have h1 : (0 : Int) ≤ i := by omega
      have h2 : i < (l' : Int) := by omega
      have h3 : i.toNat = q := by omega
      unfold tk at he
      split at he
      · rename_i dd ii' hdd hii
        simp only [Option.some.injEq, Prod.mk.injEq] at he
        have hagg : (isAgg e').run P w = .ok false w := by
          unfold isAgg
          cases dd <;> simp [isAggD] at he <;> simp [run_underlying hdd]
        simp [execOp, Instr.index, hf.ov hx, hf.ov hy, asIntOf, run_underlying hu, h1, h2, h3, sizeOf, typeInfo, hi, h5, part, hagg, hv]
      · cases he
  · cases ht
/-! a slice of a slice -/
theorem rn_slice_hi {q l c sz : Nat} {e : TypeId} {a0 : Option Addr} (ht : tsl P T = some (e, sz)) (hx : ov ρ x = some (.slice a0 l c)) (hy : ov ρ y = some (.int .i64 i)) (hq : i = (q : Int)) (hle : q ≤ c) :
    Rn P n ρ ⟨dst, .slice T x none (some y) none, ty, pos, after, gd⟩ (.slice a0 q c) := fun w a hf => by
  unfold tsl at ht
  split at ht
  · rename_i e' he
    cases hi : P.info? e' with
    | none => simp [hi] at ht
    | some ii =>
      have h1 : (0 : Int) ≤ i := by omega
      have h2 : i ≤ (c : Int) := by omega
      have h3 : i.toNat = q := by omega
      simp [execOp, Instr.sliceAt, Instr.slice, Instr.sliceBounds, Instr.sliceBound, hf.ov hx, hf.ov hy, asIntOf, run_underlying he, h1, h2, h3, sizeOf, typeInfo, hi]
      intro _
      cases a0 with
      | none => rfl
      | some a1 => simp [Addr.add]
  · cases ht
theorem rn_slice_lo {q l c sz b off : Nat} {e : TypeId} (ht : tsl P T = some (e, sz)) (hx : ov ρ x = some (.slice (some ⟨b, off, none⟩) l c)) (hy : ov ρ y = some (.int .i64 i)) (hq : i = (q : Int)) (hle : q ≤ l) :
    Rn P n ρ ⟨dst, .slice T x (some y) none none, ty, pos, after, gd⟩ (.slice (some ⟨b, if c = q then off else off + q * sz, none⟩) (l - q) (c - q)) := fun w a hf => by
  unfold tsl at ht
  split at ht
  · rename_i e' he
    cases hi : P.info? e' with
    | none => simp [hi] at ht
    | some ii =>
      simp [hi] at ht
      obtain ⟨rfl, rfl⟩ := ht
      have h1 : (0 : Int) ≤ i := by omega
      have h2 : i ≤ (l : Int) := by omega
      have h3 : i.toNat = q := by omega
      simp [execOp, Instr.sliceAt, Instr.slice, Instr.sliceBounds, Instr.sliceBound, hf.ov hx, hf.ov hy, asIntOf, run_underlying he, h1, h2, h3, sizeOf, typeInfo, hi]
      split
      · rfl
      · simp [Addr.add_lit]
  · cases ht
/-! blocks -/
/-- an operation that makes one block and answers with its address -/
theorem xo_new {op : Op} (o : Obj) (f : Nat → Value) (hd : Nat.blt d n = true)
    (h : ∀ w a, Fits n ⟨ρ, m, μ, D⟩ a → (execOp a.eval ⟨some d, op, ty, pos, after, none⟩).run P w = .ok (.value (f w.heap.size)) { w with heap := w.heap.push o })
    (k : ∀ b, XO E P n ops rest ⟨(d, f b) :: ρ, m, .blk b o :: μ, D⟩ K) : XO E P n ops (⟨some d, op, ty, pos, after, none⟩ :: rest) ⟨ρ, m, μ, D⟩ K := fun w a hg hf => by
  refine wpList_plain rfl fun K' hK' => ?_
  unfold Oper.wp
  rw [h w a hf]
  exact hK' _ _ (k w.heap.size _ _ (hg.new o) (hf.put d _ hd))
theorem xo_box {v : Value} {cs : List Value} (hd : Nat.blt d n = true) (hx : ov ρ x = some v) (hcs : v.cells.toList = cs) (k : ∀ b, XO E P n ops rest ⟨(d, .pointer (some ⟨b, 0, none⟩)) :: ρ, m, bx b T cs :: μ, D⟩ K) :
    XO E P n ops (⟨some d, .box T x, ty, pos, after, none⟩ :: rest) ⟨ρ, m, μ, D⟩ K := by
  refine xo_new (.cells cs.toArray T (0, 0)) (fun b => .pointer (some ⟨b, 0, none⟩)) hd (fun w a hf => ?_) k
  subst hcs
  simp [execOp, Instr.box, hf.ov hx, newVar, newRow, newObj, Sem.run]
theorem xo_alloc {v : Value} {cs : List Value} (hd : Nat.blt d n = true) (hz : tz P T = some v) (hcs : v.cells.toList = cs) (k : ∀ b, XO E P n ops rest ⟨(d, .pointer (some ⟨b, 0, none⟩)) :: ρ, m, bx b T cs :: μ, D⟩ K) :
    XO E P n ops (⟨some d, .alloc T, ty, pos, after, none⟩ :: rest) ⟨ρ, m, μ, D⟩ K := by
  refine xo_new (.cells cs.toArray T (0, 0)) (fun b => .pointer (some ⟨b, 0, none⟩)) hd (fun w a hf => ?_) k
  subst hcs
  cases hi : P.info? T with
  | none => simp [tz, hi] at hz
  | some i =>
    simp [tz, hi] at hz
    simp [execOp, Instr.alloc, zeroValue, typeInfo, hi, hz, newVar, newRow, newObj, Sem.run]
/-! loads -/
def loadV : Bool → List Value → Nat → Nat → Option Value
  | true, cs, off, k => match Nat.ble (off + k) cs.length with
    | true => some (.agg (cut cs off k).toArray)
    | false => none
  | false, cs, off, _ => cs[off]?
theorem cut_get {cs : List Value} {off k j : Nat} {v : Value} (h : (cut cs off k)[j]? = some v) : cs[off + j]? = some v := by
  unfold cut at h
  rw [List.getElem?_take] at h
  split at h
  · rw [List.getElem?_drop] at h; exact h
  · cases h
theorem cut_length {cs : List Value} {off k : Nat} (h : off + k ≤ cs.length) : (cut cs off k).length = k := by
  unfold cut; simp; omega
theorem run_loadVar_cells {T : TypeId} {w : World} {b off k : Nat} {ag : Bool} {cs : List Value} {v : Value} (ht : tk P T = some (ag, k)) (hc : ∀ j u, cs[j]? = some u → w.cell? ⟨b, j, none⟩ = some u) (hv : loadV ag cs off k = some v) :
    (loadVar T ⟨b, off, none⟩).run P w = .ok v w := by
  unfold tk at ht
  split at ht
  · rename_i dd ii hdd hii
    simp only [Option.some.injEq, Prod.mk.injEq] at ht
    obtain ⟨h1, h2⟩ := ht
    cases ag with
    | true =>
      simp only [loadV] at hv
      split at hv
      · rename_i hle
        simp only [Option.some.injEq] at hv
        subst hv
        have hle' : off + k ≤ cs.length := Nat.le_of_ble_eq_true hle
        have hl : (loadCells ⟨b, off, none⟩ k).run P w = .ok (cut cs off k).toArray w := by
          have := run_loadCells_list (P := P) w ⟨b, off, none⟩ (cut cs off k) (fun j u hu => by rw [Addr.add_lit]; exact hc _ _ (cut_get hu))
          rwa [cut_length hle'] at this
        have hagg : (isAgg T).run P w = .ok true w := by
          unfold isAgg
          cases dd <;> simp [isAggD] at h1 <;> simp [run_underlying hdd]
        simp [loadVar, hagg, sizeOf, typeInfo, hii, h2, hl]
      · cases hv
    | false =>
      simp only [loadV] at hv
      have hagg : (isAgg T).run P w = .ok false w := by
        unfold isAgg
        cases dd <;> simp [isAggD] at h1 <;> simp [run_underlying hdd]
      simp [loadVar, hagg, load, Sem.run, hc _ _ hv]
  · cases ht
theorem rl_own {ag : Bool} {q b off c : Nat} {T' : TypeId} {cs : List Value} {v : Value} (ht : tk P T = some (ag, c)) (hx : ov ρ x = some (.pointer (some ⟨b, off, none⟩))) (hq : μ[q]? = some (bx b T' cs)) (hv : loadV ag cs off c = some v) :
    RnL E P n ρ m μ ⟨dst, .load T x, ty, pos, after, gd⟩ v := fun w a hg hf => by
  have hb : w.heap[b]? = some (.cells cs.toArray T' (0, 0)) := hg.own hq
  simp [execOp, Instr.loadAt, hf.ov hx, Instr.sureAddr, run_loadVar_cells (w := w) (b := b) ht (fun j u hu => cell_of_cells hb hu) hv]
theorem rl_mem1 {b off c : Nat} {v : Value} (ht : tk P T = some (false, c)) (hx : ov ρ x = some (.pointer (some ⟨b, off, none⟩))) (hv : Rd m b off v) :
    RnL E P n ρ m μ ⟨dst, .load T x, ty, pos, after, gd⟩ v := fun w a hg hf => by
  unfold tk at ht
  split at ht
  · rename_i dd ii hdd hii
    simp only [Option.some.injEq, Prod.mk.injEq] at ht
    have hagg : (isAgg T).run P w = .ok false w := by
      unfold isAgg
      cases dd <;> simp [isAggD] at ht <;> simp [run_underlying hdd]
    simp [execOp, Instr.loadAt, hf.ov hx, Instr.sureAddr, loadVar, hagg, load, Sem.run, hg.cell hv]
  · cases ht
theorem rl_memN {b off c : Nat} {vs : List Value} (ht : tk P T = some (true, c)) (hx : ov ρ x = some (.pointer (some ⟨b, off, none⟩))) (hv : RdN m b off vs) (hl : vs.length = c) :
    RnL E P n ρ m μ ⟨dst, .load T x, ty, pos, after, gd⟩ (.agg vs.toArray) := fun w a hg hf => by
  unfold tk at ht
  split at ht
  · rename_i dd ii hdd hii
    simp only [Option.some.injEq, Prod.mk.injEq] at ht
    have hagg : (isAgg T).run P w = .ok true w := by
      unfold isAgg
      cases dd <;> simp [isAggD] at ht <;> simp [run_underlying hdd]
    have hll : (loadCells ⟨b, off, none⟩ c).run P w = .ok vs.toArray w := by
      have := run_loadCells_list (P := P) w ⟨b, off, none⟩ vs (fun j u hu => by rw [Addr.add_lit]; exact hg.cell (hv j u hu))
      rwa [hl] at this
    simp [execOp, Instr.loadAt, hf.ov hx, Instr.sureAddr, loadVar, hagg, sizeOf, typeInfo, hii, ht.2, hll]
  · cases ht
/-! one of what is owned turns, wherever it stands -/
theorem split_at {α : Type} {l : List α} {q : Nat} {r : α} (h : l[q]? = some r) : ∃ l1 l2, l = l1 ++ r :: l2 ∧ l1.length = q := by
  have hlt := (List.getElem?_eq_some_iff.1 h).1
  refine ⟨l.take q, l.drop (q + 1), ?_, by simp; omega⟩
  have he := (List.getElem?_eq_some_iff.1 h).2
  conv => lhs; rw [← List.take_append_drop q l]
  rw [List.drop_eq_getElem_cons hlt, he]
theorem Good.turnAt {w w' : World} {q : Nat} {r r' : Res} (h : Good E w m μ) (hq : μ[q]? = some r)
    (hos : w'.os = w.os) (htape : w'.tape = w.tape) (hout : w'.output = w.output) (hsize : w.heap.size ≤ w'.heap.size)
    (hk : ∀ b, b < w.heap.size → r.foot ≠ some b → w'.heap[b]? = w.heap[b]?) (hr : r'.holds w')
    (hf : ∀ b, r'.foot = some b → r.foot = some b ∨ w.heap.size ≤ b) : Good E w' m (μ.set q r') := by
  obtain ⟨l1, l2, rfl, rfl⟩ := split_at hq
  have h1 : Good E w m (r :: (l1 ++ l2)) := h.perm List.perm_middle
  have h2 := h1.turn hos htape hout hsize hk hr hf
  have h3 : (l1 ++ r :: l2).set l1.length r' = l1 ++ r' :: l2 := by simp
  rw [h3]
  exact h2.perm List.perm_middle.symm
def upd (cs : List Value) (off : Nat) (vs : List Value) : List Value := cs.take off ++ (vs ++ cs.drop (off + vs.length))
theorem xo_store {q b off c : Nat} {ag : Bool} {T' : TypeId} {cs cs' vs : List Value} {v : Value} (ht : tk P T = some (ag, c)) (hx : ov ρ x = some (.pointer (some ⟨b, off, none⟩))) (hy : ov ρ y = some v) (hq : μ[q]? = some (bx b T' cs))
    (hvs : v.cells.toList = vs) (h1 : vs.all (·.oneCell') = true) (hlen : Nat.beq vs.length c = true) (hle : Nat.ble (off + vs.length) cs.length = true) (hcs : upd cs off vs = cs') {μ' : Own} (hμ' : μ.set q (bx b T' cs') = μ')
    (k : XO E P n ops rest ⟨ρ, m, μ', D⟩ K) : XO E P n ops (⟨none, .store T x y, ty, pos, after, none⟩ :: rest) ⟨ρ, m, μ, D⟩ K := by
  subst hμ'
  refine xo_unit m (μ.set q (bx b T' cs')) (fun w a hg hf => ?_) k
  have hb : w.heap[b]? = some (.cells cs.toArray T' (0, 0)) := hg.own hq
  subst hvs
  subst hcs
  have hl := Nat.eq_of_beq_eq_true hlen
  have hle' := Nat.le_of_ble_eq_true hle
  have hst := run_storeCells_at P b off T' v.cells.toList 0 cs.toArray w hb (by simpa using hle') (List.all_eq_true.1 h1)
  refine ⟨_, ?_, hg.turnAt (w' := w.setRow b (upd cs off v.cells.toList).toArray) hq rfl rfl rfl (by simp [World.setRow]) (fun b' _ hne => setRow_other w b b' _ (fun e => hne (by simp [Res.foot, e]))) (setRow_heap w b _ _ T' (0, 0) hb) (fun b' e => .inl e)⟩
  unfold tk at ht
  split at ht
  · rename_i dd ii hdd hii
    simp only [Option.some.injEq, Prod.mk.injEq] at ht
    have hs : v.cells.size = ii.size := by rw [ht.2, ← hl]; simp
    simp only [Nat.add_zero] at hst
    simp [execOp, Instr.storeAt, hf.ov hx, hf.ov hy, Instr.sureAddr, storeVar, sizeOf, typeInfo, hii, hs, hst, upd]
  · cases ht
/-! composite values -/
theorem upd_get {cs vs : List Value} {off : Nat} (h : off + vs.length ≤ cs.length) (j : Nat) : (upd cs off vs)[j]? = if j < off then cs[j]? else if j < off + vs.length then vs[j - off]? else cs[j]? := by
  unfold upd
  by_cases h1 : j < off
  · rw [if_pos h1, List.getElem?_append_left (by simp; omega), List.getElem?_take, if_pos h1]
  · rw [if_neg h1, List.getElem?_append_right (by simp; omega)]
    have hl : (cs.take off).length = off := by simp; omega
    rw [hl]
    by_cases h2 : j < off + vs.length
    · rw [if_pos h2, List.getElem?_append_left (by omega)]
    · rw [if_neg h2, List.getElem?_append_right (by omega), List.getElem?_drop]
      congr 1
      omega
theorem upd_length {cs vs : List Value} {off : Nat} (h : off + vs.length ≤ cs.length) : (upd cs off vs).length = cs.length := by
  unfold upd; simp; omega
theorem upd_cons {cs vs : List Value} {off : Nat} {v : Value} (h : off + (v :: vs).length ≤ cs.length) : upd cs off (v :: vs) = upd (cs.set off v) (off + 1) vs := by
  simp only [List.length_cons] at h
  apply List.ext_getElem?
  intro j
  rw [upd_get (by simp; omega), upd_get (by simp; omega), List.getElem?_set]
  simp only [List.length_cons]
  by_cases h1 : j < off
  · rw [if_pos h1, if_pos (by omega), if_neg (by omega)]
  · rw [if_neg h1]
    by_cases h2 : j = off
    · subst h2
      rw [if_pos (by omega), if_pos (by omega), if_pos rfl, if_pos (by omega)]
      simp
    · by_cases h3 : j < off + (vs.length + 1)
      · rw [if_pos h3, if_neg (by omega), if_pos (by omega)]
        have : j - off = (j - (off + 1)) + 1 := by omega
        rw [this]; simp
      · rw [if_neg h3, if_neg (by omega), if_neg (by omega), if_neg (by omega)]
theorem foldl_upd (off : Nat) : ∀ (vs : List Value) (j : Nat) (cs : List Value), off + j + vs.length ≤ cs.length →
    (vs.zipIdx j).foldl (fun (a : Array Value) (p : Value × Nat) => a.setIfInBounds (off + p.2) p.1) cs.toArray = (upd cs (off + j) vs).toArray
  | [], j, cs, h => by simp [upd]
  | v :: vs, j, cs, h => by
    have h0 : off + (j + 1) + vs.length ≤ (cs.set (off + j) v).length := by simp only [List.length_set, List.length_cons] at h ⊢; omega
    have ih := foldl_upd off vs (j + 1) (cs.set (off + j) v) h0
    rw [upd_cons h]
    simp only [List.zipIdx_cons, List.foldl_cons, List.setIfInBounds_toArray]
    exact ih
def fillL (place : Nat → Option (Nat × Nat)) (cs : List Value) : List (Nat × Value) → Option (List Value)
  | [] => some cs
  | (i, v) :: r => match place i with
    | some (off, size) => match Nat.beq v.cells.toList.length size, Nat.ble (off + size) cs.length with
      | true, true => fillL place (upd cs off v.cells.toList) r
      | _, _ => none
    | none => none
theorem fill_of_fillL (place : Nat → Option (Nat × Nat)) : ∀ (parts : List (Nat × Value)) (cs cs' : List Value), fillL place cs parts = some cs' → Instr.fill place cs.toArray parts = some cs'.toArray
  | [], cs, cs', h => by simp [fillL] at h; simp [Instr.fill, h]
  | (i, v) :: r, cs, cs', h => by
    simp only [fillL] at h
    split at h
    · rename_i off size hp
      split at h
      · rename_i h1 h2
        have e1 := Nat.eq_of_beq_eq_true h1
        have e2 := Nat.le_of_ble_eq_true h2
        have ih := fill_of_fillL place r _ cs' h
        have hs : v.cells.size = size := by rw [← e1]; simp
        have hf := foldl_upd off v.cells.toList 0 cs (by simp [hs]; omega)
        rw [Instr.fill, hp]
        simp only [hs, ne_eq, not_true_eq_false, decide_false, Bool.false_or, List.size_toArray]
        rw [if_neg (by simp; omega)]
        simp only [Nat.add_zero] at hf
        have hz : v.cells.zipIdx.foldl (fun (a : Array Value) (p : Value × Nat) => a.setIfInBounds (off + p.2) p.1) cs.toArray = (upd cs off v.cells.toList).toArray := by
          rw [← hf, ← Array.foldl_toList]
          simp
        exact (congrArg (fun z => Instr.fill place z r) hz).trans ih
      · cases h
    · cases h
def ovp (ρ : Env) : List (Nat × Operand) → Option (List (Nat × Value))
  | [] => some []
  | (i, x) :: r => match ov ρ x, ovp ρ r with
    | some v, some l => some ((i, v) :: l)
    | _, _ => none
def ovs (ρ : Env) : List Operand → Option (List Value)
  | [] => some []
  | x :: r => match ov ρ x, ovs ρ r with
    | some v, some l => some (v :: l)
    | _, _ => none
theorem Fits.ovp {s : St} {a : Act} (h : Fits n s a) : ∀ {xs : List (Nat × Operand)} {vs : List (Nat × Value)}, ovp s.ρ xs = some vs → xs.map (fun p => (p.1, a.eval p.2)) = vs
  | [], vs, e => by simp [Gw.ovp] at e; simp [e]
  | (i, x) :: r, vs, e => by
    simp only [Gw.ovp] at e
    split at e
    · rename_i v l h1 h2
      simp only [Option.some.injEq] at e
      subst e
      simp [h.ov h1, Fits.ovp h h2]
    · cases e
theorem Fits.ovs {s : St} {a : Act} (h : Fits n s a) : ∀ {xs : List Operand} {vs : List Value}, ovs s.ρ xs = some vs → xs.map a.eval = vs
  | [], vs, e => by simp [Gw.ovs] at e; simp [e]
  | x :: r, vs, e => by
    simp only [Gw.ovs] at e
    split at e
    · rename_i v l h1 h2
      simp only [Option.some.injEq] at e
      subst e
      simp [h.ov h1, Fits.ovs h h2]
    · cases e
theorem mapM_places {fs : List Field} {pl : List (Nat × Nat)} (h : fs.mapM (fun f => (P.info? f.type).map fun i => (f.offset, i.size)) = some pl) (w : World) :
    (fs.mapM (m := Sem) fun f => do pure (f.offset, ← sizeOf f.type)).run P w = .ok pl w := by
  induction fs generalizing pl with
  | nil => simp at h; subst h; simp [Sem.run]
  | cons f fs ih =>
    rw [List.mapM_cons] at h ⊢
    cases hi : P.info? f.type with
    | none => simp [hi] at h
    | some ii =>
      cases hr : fs.mapM (fun f => (P.info? f.type).map fun i => (f.offset, i.size)) with
      | none => simp [hi, hr] at h
      | some l =>
        simp [hi, hr] at h
        subst h
        have h1 : (sizeOf f.type).run P w = .ok ii.size w := by simp [sizeOf, typeInfo, hi]
        simp only [Sem.run_bind, h1, Result.andThen_ok, Sem.run_pure, ih hr]
theorem rn_build {parts : List (Nat × Operand)} {pv : List (Nat × Value)} {pl : List (Nat × Nat)} {z : Value} {zs cs : List Value} (ht : tpl P T = some pl) (hz : tz P T = some z) (hzs : z.cells.toList = zs) (hp : ovp ρ parts = some pv)
    (hc : fillL (fun i => pl[i]?) zs pv = some cs) :
    Rn P n ρ ⟨dst, .build T parts.toArray, ty, pos, after, gd⟩ (.agg cs.toArray) := fun w a hf => by
  subst hzs
  unfold tpl at ht
  split at ht
  · rename_i fs hfs
    cases hi : P.info? T with
    | none => simp [tz, hi] at hz
    | some ii =>
      simp [tz, hi] at hz
      have hm := mapM_places ht w
      have hfill := fill_of_fillL _ _ _ _ hc
      have hpv := (hf.fits (fun _ => none) []).ovp hp
      have hm2 : (fs.mapM (m := Sem) fun f => do pure (f.offset, ← sizeOf f.type)).run P w = .ok pl.toArray w := by
        rw [Array.mapM_eq_mapM_toList, Sem.run_map, hm]
        rfl
      simp only [Array.toArray_toList] at hfill
      have hz2 : (zeroValue T).run P w = .ok z w := by simp [zeroValue, typeInfo, hi, hz]
      simp only [execOp, Instr.build, Sem.run_bind, hz2, Result.andThen_ok, run_underlying hfs, hm2, Sem.run_pure, List.map_toArray, hpv, List.getElem?_toArray, hfill]
  · cases ht
/-! a slice that is written out -/
theorem xo_buildSlice {parts : List (Nat × Operand)} {pv : List (Nat × Value)} {e : TypeId} {sz len : Nat} {z : Value} {zs cs : List Value} (hd : Nat.blt d n = true) (ht : tsl P T = some (e, sz)) (hz : tz P e = some z)
    (hzs : ((List.range (len * sz)).map fun i => z.cells[i % z.cells.size]!) = zs) (hlen : Nat.ble (len * sz) 1000 = true) (hp : ovp ρ parts = some pv)
    (hc : fillL (fun i => some (i * sz, sz)) zs pv = some cs) (k : ∀ b, XO E P n ops rest ⟨(d, .slice (some ⟨b, 0, none⟩) len len) :: ρ, m, bx b e cs :: μ, D⟩ K) :
    XO E P n ops (⟨some d, .buildSlice T len parts.toArray, ty, pos, after, none⟩ :: rest) ⟨ρ, m, μ, D⟩ K := by
  refine xo_new (.cells cs.toArray e (0, 0)) (fun b => .slice (some ⟨b, 0, none⟩) len len) hd (fun w a hf => ?_) k
  have hpv := hf.ovp hp
  have hle := Nat.le_of_ble_eq_true hlen
  unfold tsl at ht
  split at ht
  · rename_i e' he
    cases hi : P.info? e' with
    | none => simp [hi] at ht
    | some ii =>
      simp [hi] at ht
      obtain ⟨rfl, rfl⟩ := ht
      simp [tz, hi] at hz
      have hfill := fill_of_fillL _ _ _ _ hc
      have h1 : (sizeOf e').run P w = .ok ii.size w := by simp [sizeOf, typeInfo, hi]
      have hz2 : (zeroValue e').run P w = .ok z w := by simp [zeroValue, typeInfo, hi, hz]
      have hsmall : ¬ (len * ii.size > 2 ^ 24) := by omega
      by_cases h0 : len * ii.size = 0
      · have hzs0 : zs = [] := by rw [← hzs, h0]; rfl
        subst hzs0
        have hr : (Array.range (len * ii.size)).map (fun i => (#[] : Array Value)[i % (#[] : Array Value).size]!) = ([] : List Value).toArray := by simp [h0]
        simp only [execOp, Instr.buildSlice, Sem.run_bind, run_underlying he, Result.andThen_ok, h1, if_neg hsmall, Sem.run_pure, if_pos h0, hr, List.map_toArray, hpv, hfill, newRow, newObj, Sem.run]
      · have hcells : (Array.range (len * ii.size)).map (fun i => z.cells[i % z.cells.size]!) = zs.toArray := by
          rw [← hzs]
          apply Array.ext'
          simp
        simp only [execOp, Instr.buildSlice, Sem.run_bind, run_underlying he, Result.andThen_ok, h1, if_neg hsmall, Sem.run_pure, if_neg h0, hz2, hcells, List.map_toArray, hpv, hfill, newRow, newObj, Sem.run]
  · cases ht
theorem append_foot {w : World} (t ty e : TypeId) (i : TypeInfo) (z : Value) (size bytes : Nat) (ht : P.underlying t = some (.slice e)) (hi : P.info? e = some i) (hz : i.zero = some z)
    (hsize : i.size = size) (hby : i.bytes = bytes) (v : Value) (n0 : Nat) (xs : List Value) (hown : w.ownsRow 0 e size v n0 xs)
    (a : Addr) (m0 c : Nat) (news : List Value) (hl : news.length = m0 * size) (hnews : ∀ j u, news[j]? = some u → w.cell? (a.add j) = some u) (h1 : ∀ u ∈ news, u.oneCell' = true)
    (h63 : n0 + m0 ≤ maxLen) (hbytes : (n0 + m0) * bytes ≤ 140737488355328) {v' : Value} {w' : World} (hr : (Builtin.append_ #[t, t] ty #[v, .slice (some a) m0 c]).run P w = .ok v' w')
    (b : Nat) (hb : v'.ownBlock = some b) : v.ownBlock = some b ∨ w.heap.size ≤ b := by
  subst hsize
  subst hby
  have hsmall : n0 + m0 ≤ 9223372036854775807 := by simp only [maxLen] at h63; omega
  rcases hown.2 with ⟨rfl, rfl⟩ | ⟨g, cap, cur, rfl, hbg, hg, hnc, hcm, hcs, htake⟩
  · by_cases hm : m0 = 0
    · subst hm
      have hn : news = [] := List.eq_nil_of_length_eq_zero (by simpa using hl)
      subst hn
      simp [Builtin.append_, run_underlying ht, sizeOf, typeInfo, hi, Builtin.lenOf, Builtin.firstCells, loadCells, loadCellsFrom] at hr
      obtain ⟨rfl, _⟩ := hr
      simp [Value.ownBlock] at hb
    · have h := run_append_nil (P := P) w t ty e i z ht hi hz a m0 c news hl hnews (by omega) (by omega) (by have hb := hbytes; simp only [Nat.zero_add] at hb; omega)
      rw [h] at hr
      simp only [Result.ok.injEq] at hr
      rw [← hr.1] at hb
      simp [Value.ownBlock] at hb
      exact .inr (by omega)
  · by_cases hroom : n0 + m0 ≤ cap
    · have hfit : n0 * i.size + news.length ≤ cur.size := by rw [hl, hcs, ← Nat.add_mul]; exact Nat.mul_le_mul_right _ hroom
      have h := run_append_room (P := P) w t ty e i ht hi g n0 cap cur hg a m0 c news hl hnews h1 hroom hfit
      rw [h] at hr
      simp only [Result.ok.injEq] at hr
      rw [← hr.1] at hb
      exact .inl hb
    · have holds : ∀ j u, xs[j]? = some u → w.cell? ((⟨g, 0, none⟩ : Addr).add j) = some u := hown.cells (g := g) rfl
      have h := run_append_grow (P := P) w t ty e i z ht hi hz ⟨g, 0, none⟩ n0 cap xs hown.1 holds a m0 c news hl hnews (by omega) (by omega) (growslice_fits (by omega) hbytes)
      rw [h] at hr
      simp only [Result.ok.injEq] at hr
      rw [← hr.1] at hb
      simp [Value.ownBlock] at hb
      exact .inr (by omega)
/-! append to a row of the run's own -/
theorem xo_append {i0 : TypeInfo} {z : Value} {e : TypeId} {sz by_ q b off k0 c n0 cap : Nat} {a0 : Option Addr} {xs news : List Value} (hd : Nat.blt d n = true)
    (ht : P.underlying T = some (.slice e)) (hi : P.info? e = some i0) (hz : i0.zero = some z) (hsz : i0.size = sz) (hby : i0.bytes = by_) (hzs : z.cells.size = sz) (hpos : 0 < sz)
    (hx : ov ρ x = some (.slice a0 n0 cap)) (hq : μ[q]? = some (.row (.slice a0 n0 cap) e sz n0 xs)) (hy : ov ρ y = some (.slice (some ⟨b, off, none⟩) k0 c))
    (hnews : ∀ w, Good E w m μ → ∀ j u, news[j]? = some u → w.cell? ⟨b, off + j, none⟩ = some u) (hl : news.length = k0 * sz) (h1 : ∀ u ∈ news, u.oneCell' = true)
    (h63 : n0 + k0 ≤ maxLen) (hbytes : (n0 + k0) * by_ ≤ 140737488355328) {μ' : Option Addr → Nat → Own} (hμ' : ∀ a1 cap1, μ.set q (.row (.slice a1 (n0 + k0) cap1) e sz (n0 + k0) (xs ++ news)) = μ' a1 cap1)
    (k : ∀ a1 cap1, n0 + k0 ≤ cap1 → XO E P n ops rest ⟨(d, .slice a1 (n0 + k0) cap1) :: ρ, m, μ' a1 cap1, D⟩ K) :
    XO E P n ops (⟨some d, .call ⟨.builtin .append, #[x, y], #[T, T]⟩, ty, pos, after, none⟩ :: rest) ⟨ρ, m, μ, D⟩ K := fun w a hg hf => by
  refine wpList_plain rfl fun K' hK' => ?_
  have hown : w.ownsRow 0 e sz (.slice a0 n0 cap) n0 xs := hg.own hq
  have hnews' : ∀ j u, news[j]? = some u → w.cell? ((⟨b, off, none⟩ : Addr).add j) = some u := fun j u hu => by rw [Addr.add_lit]; exact hnews w hg j u hu
  obtain ⟨v', w', hr, hown', hgr, _⟩ := run_append_own (P := P) w 0 T ty e i0 z sz by_ ht hi hz hsz hby hzs hpos (.slice a0 n0 cap) n0 xs hown ⟨b, off, none⟩ k0 c news hl hnews' h1 h63 hbytes (Nat.zero_le _)
  have hfoot := append_foot (w := w) T ty e i0 z sz by_ ht hi hz hsz hby (.slice a0 n0 cap) n0 xs hown ⟨b, off, none⟩ k0 c news hl hnews' h1 h63 hbytes hr
  obtain ⟨a1, cap1, rfl, hcap1⟩ : ∃ a1 cap1, v' = .slice a1 (n0 + k0) cap1 ∧ n0 + k0 ≤ cap1 := by
    rcases hown'.2 with ⟨rfl, h0⟩ | ⟨g, cap1, cur, rfl, _, _, h0, _⟩
    · exact ⟨none, 0, by rw [h0], by omega⟩
    · exact ⟨_, _, rfl, h0⟩
  unfold Oper.wp execOp
  simp only [resolve, invoke, builtin, Sem.run_bind, Sem.run_pure, Result.andThen_ok, List.map_toArray, List.map_cons, List.map_nil, hf.ov hx, hf.ov hy, hr]
  have k1 := k a1 cap1 hcap1
  rw [← hμ' a1 cap1] at k1
  exact hK' _ _ (k1 w' _ (hg.turnAt hq hgr.os hgr.tape hgr.output hgr.size (fun b' hb hne => hgr.block b' hb (fun e' => hne e'.symm)) hown' hfoot) (hf.put d _ hd))
/-- a nil slice is a row of the run's own -/
theorem Good.nilRow {w : World} (h : Good E w m μ) (e : TypeId) (sz : Nat) : Good E w m (.row (.slice none 0 0) e sz 0 [] :: μ) :=
  ⟨h.os, h.tape, h.output, h.size, h.keep, h.sub, h.mem, h.fresh, fun r hr => by
    rcases List.mem_cons.1 hr with rfl | hr
    · exact World.ownsRow_nil w 0 e sz
    · exact h.holds r hr, fun r hr b hb => by
    rcases List.mem_cons.1 hr with rfl | hr
    · simp [Res.foot, Value.ownBlock] at hb
    · exact h.feet r hr b hb, List.pairwise_cons.2 ⟨fun _ _ b hb => by simp [Res.foot, Value.ownBlock] at hb, h.apart⟩⟩
theorem x_nilRow {c : Code} (e : TypeId) (sz : Nat) (h : X E P n c ⟨ρ, m, .row (.slice none 0 0) e sz 0 [] :: μ, D⟩ K) : X E P n c ⟨ρ, m, μ, D⟩ K :=
  fun w a hg hf => h w a (hg.nilRow e sz) hf.same
theorem xo_nilRow (e : TypeId) (sz : Nat) (h : XO E P n ops rest ⟨ρ, m, .row (.slice none 0 0) e sz 0 [] :: μ, D⟩ K) : XO E P n ops rest ⟨ρ, m, μ, D⟩ K :=
  fun w a hg hf => h w a (hg.nilRow e sz) hf.same
/-! guards -/
def putU (dst : Option Nat) (ρ : Env) : Env := match dst with
  | some d => (d, undef) :: ρ
  | none => ρ
def dOk (dst : Option Nat) (n : Nat) : Bool := match dst with
  | some d => Nat.blt d n
  | none => true
theorem xo_guard {op : Op} {g t : Nat} {want b : Bool} (hj : (ops[g]?).bind (·.dst) = some t) (ht : eget ρ t = some (.bool b))
    (h1 : b = want → XO E P n ops (⟨dst, op, ty, pos, after, none⟩ :: rest) ⟨ρ, m, μ, D⟩ K)
    (h2 : b ≠ want → XO E P n ops rest ⟨putU dst ρ, m, μ, D⟩ K) (hd : dOk dst n = true) :
    XO E P n ops (⟨dst, op, ty, pos, after, some (g, want)⟩ :: rest) ⟨ρ, m, μ, D⟩ K := fun w a hg hf => by
  have hy : yielded ops a.tmps g = some b := by
    unfold yielded
    rw [hj]
    simp only [Option.bind_some, hf.get t _ ht]
  unfold wpList
  by_cases hb : b = want
  · have hw : Region.wanted ⟨dst, op, ty, pos, after, some (g, want)⟩ (yielded ops a.tmps) = true := by simp [Region.wanted, hy, hb]
    rw [if_pos hw]
    have := h1 hb w a hg hf
    unfold wpList at this
    rw [if_pos (by simp [Region.wanted])] at this
    exact this
  · have hw : ¬ Region.wanted ⟨dst, op, ty, pos, after, some (g, want)⟩ (yielded ops a.tmps) = true := by simp [Region.wanted, hy, hb]
    rw [if_neg hw]
    refine h2 hb w _ hg ?_
    cases dst with
    | none => exact hf.same
    | some d => exact hf.put d undef hd
theorem xo_guard_run {op : Op} {g t : Nat} {want : Bool} (hj : (ops[g]?).bind (·.dst) = some t) (ht : eget ρ t = some (.bool want))
    (h1 : XO E P n ops (⟨dst, op, ty, pos, after, none⟩ :: rest) ⟨ρ, m, μ, D⟩ K) (hd : dOk dst n = true) :
    XO E P n ops (⟨dst, op, ty, pos, after, some (g, want)⟩ :: rest) ⟨ρ, m, μ, D⟩ K := xo_guard hj ht (fun _ => h1) (fun h => absurd rfl h) hd
theorem xo_guard_skip {d : Nat} {op : Op} {g t : Nat} {want b : Bool} (hj : (ops[g]?).bind (·.dst) = some t) (ht : eget ρ t = some (.bool b)) (hb : (b == want) = false) (hd : Nat.blt d n = true)
    (h2 : XO E P n ops rest ⟨(d, undef) :: ρ, m, μ, D⟩ K) :
    XO E P n ops (⟨some d, op, ty, pos, after, some (g, want)⟩ :: rest) ⟨ρ, m, μ, D⟩ K := xo_guard hj ht (fun h => by simp [h] at hb) (fun _ => h2) hd
theorem xo_guard_yes {op : Op} {g t : Nat} {want b : Bool} (hj : (ops[g]?).bind (·.dst) = some t) (ht : eget ρ t = some (.bool b)) (hb : b = want)
    (h1 : XO E P n ops (⟨dst, op, ty, pos, after, none⟩ :: rest) ⟨ρ, m, μ, D⟩ K) (hd : dOk dst n = true) :
    XO E P n ops (⟨dst, op, ty, pos, after, some (g, want)⟩ :: rest) ⟨ρ, m, μ, D⟩ K := xo_guard hj ht (fun _ => h1) (fun h => absurd hb h) hd
theorem xo_guard_no {d : Nat} {op : Op} {g t : Nat} {want b : Bool} (hj : (ops[g]?).bind (·.dst) = some t) (ht : eget ρ t = some (.bool b)) (hb : b ≠ want) (hd : Nat.blt d n = true)
    (h2 : XO E P n ops rest ⟨(d, undef) :: ρ, m, μ, D⟩ K) :
    XO E P n ops (⟨some d, op, ty, pos, after, some (g, want)⟩ :: rest) ⟨ρ, m, μ, D⟩ K := xo_guard hj ht (fun h => absurd h hb) (fun _ => h2) hd
theorem xo_guard_undef {d : Nat} {op : Op} {g t : Nat} {want : Bool} (hj : (ops[g]?).bind (·.dst) = some t) (ht : eget ρ t = some undef) (hd : Nat.blt d n = true)
    (h2 : XO E P n ops rest ⟨(d, undef) :: ρ, m, μ, D⟩ K) :
    XO E P n ops (⟨some d, op, ty, pos, after, some (g, want)⟩ :: rest) ⟨ρ, m, μ, D⟩ K := fun w a hg hf => by
  have hy : yielded ops a.tmps g = none := by
    unfold yielded
    rw [hj]
    simp only [Option.bind_some, hf.get t _ ht]
    rfl
  unfold wpList
  have hw : ¬ Region.wanted ⟨some d, op, ty, pos, after, some (g, want)⟩ (yielded ops a.tmps) = true := by simp [Region.wanted, hy]
  rw [if_neg hw]
  exact h2 w _ hg (hf.put d undef hd)
theorem perm_get {μ : Own} {q : Nat} {r : Res} (h : μ[q]? = some r) : μ.Perm ([r] ++ μ.eraseIdx q) := by
  obtain ⟨l1, l2, rfl, rfl⟩ := split_at h
  have h3 : (l1 ++ r :: l2).eraseIdx l1.length = l1 ++ l2 := by simp [List.eraseIdx_append_of_length_le]
  rw [h3]
  exact List.perm_middle
theorem x_weak {c : Code} {σ : Env} (hs : esub ρ σ) (h : X E P n c ⟨σ, m, μ, D⟩ K) : X E P n c ⟨ρ, m, μ, D⟩ K := fun w a hg hf => h w a hg (hf.weak hs)
theorem x_drop {c : Code} {μ' : Own} (hs : μ'.Sublist μ) (h : X E P n c ⟨ρ, m, μ', D⟩ K) : X E P n c ⟨ρ, m, μ, D⟩ K := fun w a hg hf => h w a (hg.drop hs) hf.same
/-- append of what a block of the run's own holds -/
theorem xo_append_box {z : Value} {e : TypeId} {sz by_ q r b k0 c n0 cap : Nat} {a0 : Option Addr} {xs news : List Value} (hd : Nat.blt d n = true)
    (ht : P.underlying T = some (.slice e)) (hi : (P.info? e).map (fun i => (i.zero, i.size, i.bytes)) = some (some z, sz, by_)) (hzs : z.cells.size = sz) (hpos : 0 < sz)
    (hx : ov ρ x = some (.slice a0 n0 cap)) (hq : μ[q]? = some (.row (.slice a0 n0 cap) e sz n0 xs)) (hy : ov ρ y = some (.slice (some ⟨b, 0, none⟩) k0 c)) {T1 : TypeId} (hr : μ[r]? = some (bx b T1 news)) (hl : news.length = k0 * sz) (h1 : ∀ u ∈ news, u.oneCell' = true)
    (h63 : n0 + k0 ≤ maxLen) (hbytes : (n0 + k0) * by_ ≤ 140737488355328) {μ' : Option Addr → Nat → Own} (hμ' : ∀ a1 cap1, μ.set q (.row (.slice a1 (n0 + k0) cap1) e sz (n0 + k0) (xs ++ news)) = μ' a1 cap1)
    (k : ∀ a1 cap1, n0 + k0 ≤ cap1 → XO E P n ops rest ⟨(d, .slice a1 (n0 + k0) cap1) :: ρ, m, μ' a1 cap1, D⟩ K) :
    XO E P n ops (⟨some d, .call ⟨.builtin .append, #[x, y], #[T, T]⟩, ty, pos, after, none⟩ :: rest) ⟨ρ, m, μ, D⟩ K := by
  cases hie : P.info? e with
  | none => simp [hie] at hi
  | some i0 =>
    simp only [hie, Option.map_some, Option.some.injEq, Prod.mk.injEq] at hi
    obtain ⟨h3, h4, h5⟩ := hi
    exact xo_append hd ht hie h3 h4 h5 hzs hpos hx hq hy (fun w hg j u hu => by rw [Nat.zero_add]; exact cell_of_cells (hg.own hr) hu) hl h1 h63 hbytes hμ' k
/-! calls -/
def callable (P : Program) (f : FuncId) : Bool := match P.funcs[f]? with
  | some fn => fn.body.isSome && !(fn.name == "runtime.NumGoroutine")
  | none => false
def Ret (Q : Value → Mem → Own → Prop) : Ending → Mem → Own → Prop
  | .returned v, m, μ => Q v m μ
  | _, _, _ => False
theorem run_call {a : Act} {f : FuncId} {xs : List Operand} {ts : Array TypeId} {vs : List Value} (hc : callable P f = true) (hv : xs.map a.eval = vs) (w : World) :
    (execOp a.eval ⟨dst, .call ⟨.value (.func f), xs.toArray, ts⟩, ty, pos, after, none⟩).run P w = .ok (.enter f vs.toArray) w := by
  unfold callable at hc
  split at hc
  · rename_i fn hfn
    rw [Bool.and_eq_true] at hc
    cases hb : fn.body with
    | none => simp [hb] at hc
    | some body =>
      have hne : ¬ fn.name = "runtime.NumGoroutine" := by simpa using hc.2
      simp [execOp, resolve, Deferred.ofValue, invoke, callFunc, hfn, hne, hb, hv, Act.eval]
  · cases hc
theorem xo_call {f : FuncId} {xs : List Operand} {ts : Array TypeId} {vs : List Value} {μ1 μ2 : Own} {Q : Value → Mem → Own → Prop} (hd : Nat.blt d n = true) (hc : callable P f = true) (hv : ovs ρ xs = some vs)
    (hs : Cspec P f vs.toArray m μ1 (Ret Q)) (hμ : μ.Perm (μ1 ++ μ2))
    (k : ∀ v m' μ', Mem.le m m' → Q v m' μ' → XO E P n ops rest ⟨(d, v) :: ρ, m', μ' ++ μ2, D⟩ K) :
    XO E P n ops (⟨some d, .call ⟨.value (.func f), xs.toArray, ts⟩, ty, pos, after, none⟩ :: rest) ⟨ρ, m, μ, D⟩ K := fun w a hg hf => by
  refine wpList_plain rfl fun K' hK' => ?_
  unfold Oper.wp
  rw [run_call hc (hf.ovs hv)]
  have hg1 := hg.perm hμ
  refine (hs w hg1.start).mono ?_
  rintro e w' ⟨m', μ', hg', hq⟩
  cases e with
  | returned v => exact hK' _ _ (k v m' μ' hg'.mem hq _ _ (hg1.back hg') (hf.put d v hd))
  | panicked c => exact hq.elim
  | outgrown => exact hq.elim
/-- a callee that is handed nothing to write -/
theorem xo_call0 {f : FuncId} {xs : List Operand} {ts : Array TypeId} {vs : List Value} {Q : Value → Mem → Own → Prop} (hd : Nat.blt d n = true) (hc : callable P f = true) (hv : ovs ρ xs = some vs)
    (hs : Cspec P f vs.toArray m [] (Ret Q))
    (k : ∀ v m' μ', Mem.le m m' → Q v m' μ' → XO E P n ops rest ⟨(d, v) :: ρ, m', μ, D⟩ K) :
    XO E P n ops (⟨some d, .call ⟨.value (.func f), xs.toArray, ts⟩, ty, pos, after, none⟩ :: rest) ⟨ρ, m, μ, D⟩ K :=
  xo_call (μ1 := []) (μ2 := μ) hd hc hv hs (.refl _) fun v m' μ' hle hq w a hg hf => k v m' μ' hle hq w a (hg.drop (List.sublist_append_right _ _)) hf.same
/-! a function's body -/
def argEnv : Nat → List Value → Env
  | _, [] => []
  | i, v :: r => (i, v) :: argEnv (i + 1) r
theorem argEnv_get : ∀ (vs : List Value) (i t : Nat) (v : Value), eget (argEnv i vs) t = some v → i ≤ t ∧ vs[t - i]? = some v
  | [], i, t, v, h => by simp [argEnv, eget] at h
  | u :: r, i, t, v, h => by
    rcases eget_put.1 h with ⟨rfl, rfl⟩ | ⟨h1, h2⟩
    · simp
    · obtain ⟨h3, h4⟩ := argEnv_get r (i + 1) t v h2
      refine ⟨by omega, ?_⟩
      have : t - i = (t - (i + 1)) + 1 := by omega
      rw [this]; simpa using h4
/-- what is owned may be known for good, or forgotten, as the run ends -/
def Fin (m : Mem) (μ : Own) (Q : Mem → Own → Prop) : Prop := ∀ E w, Good E w m μ → ∃ m' μ', Good E w m' μ' ∧ Q m' μ'
theorem fin_done {Q : Mem → Own → Prop} (h : Q m μ) : Fin m μ Q := fun _ _ hg => ⟨m, μ, hg, h⟩
theorem fin_drop {Q : Mem → Own → Prop} {μ' : Own} (hs : μ'.Sublist μ) (h : Fin m μ' Q) : Fin m μ Q := fun E w hg => h E w (hg.drop hs)
theorem fin_perm {Q : Mem → Own → Prop} {μ' : Own} (hs : μ.Perm μ') (h : Fin m μ' Q) : Fin m μ Q := fun E w hg => h E w (hg.perm hs)
/-- the cells of a slice that is known for good -/
def RowAt (m : Mem) (a : Option Addr) (xs : List Value) : Prop := xs = [] ∨ ∃ b, a = some ⟨b, 0, none⟩ ∧ RdN m b 0 xs
theorem RowAt.mono {m m' : Mem} {a : Option Addr} {xs : List Value} (h : RowAt m a xs) (hle : Mem.le m m') : RowAt m' a xs := by
  rcases h with h | ⟨b, h1, h2⟩
  · exact .inl h
  · exact .inr ⟨b, h1, h2.mono hle⟩
theorem Good.eraseAt {w : World} {q : Nat} {r : Res} (h : Good E w m μ) (hq : μ[q]? = some r) : Good E w m (r :: μ.eraseIdx q) := by
  obtain ⟨l1, l2, rfl, rfl⟩ := split_at hq
  have h3 : (l1 ++ r :: l2).eraseIdx l1.length = l1 ++ l2 := by simp [List.eraseIdx_append_of_length_le]
  rw [h3]
  exact h.perm List.perm_middle
theorem Good.freezeRow {w : World} {q n0 cap : Nat} {a0 : Option Addr} {e : TypeId} {sz : Nat} {xs : List Value} (h : Good E w m μ) (hq : μ[q]? = some (.row (.slice a0 n0 cap) e sz n0 xs)) :
    ∃ m', Mem.le m m' ∧ RowAt m' a0 xs ∧ Good E w m' (μ.eraseIdx q) := by
  have h1 := h.eraseAt hq
  have hown : w.ownsRow 0 e sz (.slice a0 n0 cap) n0 xs := h.own hq
  rcases hown.2 with ⟨hv, h0⟩ | ⟨g, cap', cur, hv, _, hg, hnc, hcm, hcs, htake⟩
  · have : xs = [] := List.eq_nil_of_length_eq_zero (by rw [hown.1, h0]; simp)
    exact ⟨m, Mem.le.refl m, .inl this, h1.drop (List.sublist_cons_self _ _)⟩
  · simp only [Value.slice.injEq] at hv
    obtain ⟨rfl, _, rfl⟩ := hv
    obtain ⟨h2, h3⟩ := h1.freeze (b := g) rfl hg
    refine ⟨_, h3, .inr ⟨g, rfl, fun j v hj => ⟨cur, e, (0, 0), Mem.add_self _ _ _, ?_⟩⟩, h2⟩
    rw [← htake, List.getElem?_take] at hj
    split at hj
    · simpa using hj
    · cases hj
theorem fin_row {Q : Mem → Own → Prop} {q n0 cap : Nat} {a0 : Option Addr} {e : TypeId} {sz : Nat} {xs : List Value} (hq : μ[q]? = some (.row (.slice a0 n0 cap) e sz n0 xs))
    (k : ∀ m', Mem.le m m' → RowAt m' a0 xs → Fin m' (μ.eraseIdx q) Q) : Fin m μ Q := fun E w hg => by
  obtain ⟨m', h1, h2, h3⟩ := hg.freezeRow hq
  exact k m' h1 h2 E w h3
theorem fin_blk {Q : Mem → Own → Prop} {q b : Nat} {o : Obj} (hq : μ[q]? = some (.blk b o))
    (k : ∀ m', Mem.le m m' → m' b = some o → Fin m' (μ.eraseIdx q) Q) : Fin m μ Q := fun E w hg => by
  obtain ⟨h2, h3⟩ := (hg.eraseAt hq).freeze (b := b) rfl (hg.own hq)
  exact k _ h3 (Mem.add_self _ _ _) E w h2
theorem x_freezeRow {c : Code} {q n0 cap : Nat} {a0 : Option Addr} {e : TypeId} {sz : Nat} {xs : List Value} (hq : μ[q]? = some (.row (.slice a0 n0 cap) e sz n0 xs))
    (k : ∀ m', Mem.le m m' → RowAt m' a0 xs → X E P n c ⟨ρ, m', μ.eraseIdx q, D⟩ K) : X E P n c ⟨ρ, m, μ, D⟩ K := fun w a hg hf => by
  obtain ⟨m', h1, h2, h3⟩ := hg.freezeRow hq
  exact k m' h1 h2 w a h3 hf.same
theorem xo_freezeRow {q n0 cap : Nat} {a0 : Option Addr} {e : TypeId} {sz : Nat} {xs : List Value} (hq : μ[q]? = some (.row (.slice a0 n0 cap) e sz n0 xs))
    (k : ∀ m', Mem.le m m' → RowAt m' a0 xs → XO E P n ops rest ⟨ρ, m', μ.eraseIdx q, D⟩ K) : XO E P n ops rest ⟨ρ, m, μ, D⟩ K := fun w a hg hf => by
  obtain ⟨m', h1, h2, h3⟩ := hg.freezeRow hq
  exact k m' h1 h2 w a h3 hf.same
theorem xo_freezeBlk {q b : Nat} {o : Obj} (hq : μ[q]? = some (.blk b o))
    (k : ∀ m', Mem.le m m' → m' b = some o → XO E P n ops rest ⟨ρ, m', μ.eraseIdx q, D⟩ K) : XO E P n ops rest ⟨ρ, m, μ, D⟩ K := fun w a hg hf => by
  obtain ⟨h2, h3⟩ := (hg.eraseAt hq).freeze (b := b) rfl (hg.own hq)
  exact k _ h3 (Mem.add_self _ _ _) w a h2 hf.same
/-- what a result's variable holds -/
inductive ResIs (P : Program) (s : St) : ResultVar → Value → Prop where
  | tmp {t : Nat} {v : Value} : eget s.ρ t = some v → ResIs P s (.tmp t) v
  | cell {t q b off c : Nat} {T T' : TypeId} {ag : Bool} {cs : List Value} {v : Value} : eget s.ρ t = some (.pointer (some ⟨b, off, none⟩)) → s.μ[q]? = some (bx b T' cs) → tk P T = some (ag, c) → loadV ag cs off c = some v → ResIs P s (.cell t T) v
inductive ResAre (P : Program) (s : St) : List ResultVar → List Value → Prop where
  | nil : ResAre P s [] []
  | cons {r : ResultVar} {v : Value} {rs : List ResultVar} {vs : List Value} : ResIs P s r v → ResAre P s rs vs → ResAre P s (r :: rs) (v :: vs)
def tup : List Value → Value
  | [v] => v
  | vs => .tuple vs.toArray
theorem ret_tup0 {Q : Value → Mem → Own → Prop} (h : Q (.tuple #[]) m μ) : Ret Q (.returned (tup [])) m μ := h
theorem ret_tup1 {Q : Value → Mem → Own → Prop} {v : Value} (h : Q v m μ) : Ret Q (.returned (tup [v])) m μ := h
theorem ret_tup2 {Q : Value → Mem → Own → Prop} {u v : Value} (h : Q (.tuple #[u, v]) m μ) : Ret Q (.returned (tup [u, v])) m μ := h
theorem ret_tup3 {Q : Value → Mem → Own → Prop} {t u v : Value} (h : Q (.tuple #[t, u, v]) m μ) : Ret Q (.returned (tup [t, u, v])) m μ := h
def resM (tmps : Array Value) : ResultVar → Sem Value
  | .tmp t => pure (tmps.getD t undef)
  | .cell x t => do loadVar t (← asAddr (tmps.getD x undef))
theorem run_results {w : World} {a : Act} {s : St} (hg : Good E w s.m s.μ) (hf : Fits n s a) : ∀ {rs : List ResultVar} {vs : List Value}, ResAre P s rs vs →
    (rs.mapM (m := Sem) (resM a.tmps)).run P w = .ok vs w := by
  intro rs vs h
  induction h with
  | nil => simp [Sem.run]
  | cons h1 _ ih =>
    cases h1 with
    | tmp ht =>
      have he := hf.ov (x := .tmp _) ht
      simp only [Act.eval] at he
      rw [List.mapM_cons]
      simp [resM, he, ih]
    | cell ht hq hk hv =>
      have hl := run_loadVar_cells (P := P) (w := w) hk (fun j u hu => cell_of_cells (hg.own hq) hu) hv
      have he := hf.ov (x := .tmp _) ht
      simp only [Act.eval] at he
      rw [List.mapM_cons]
      simp [resM, he, asAddr, hl, ih]
def Kbody (P : Program) (fn : Func) (Post : Ending → Mem → Own → Prop) : Exit → St → Prop
  | .normal, s | .ret, s => s.D = [] ∧ ∃ vs, ResAre P s fn.results.toList vs ∧ Fin s.m s.μ (Post (.returned (tup vs)))
  | .panic ch, s => s.D = [] ∧ Fin s.m s.μ (Post (.panicked ch))
  | _, _ => False
theorem spec_body {f : FuncId} {fn : Func} {c : Code} {vs : List Value} {nt : Nat} {Post : Ending → Mem → Own → Prop} (hf : P.funcs[f]? = some fn) (hb : fn.body = some c) (hn : fn.ntmps = nt) (hle : Nat.ble vs.length nt = true)
    (h : ∀ E, X E P nt c ⟨argEnv 0 vs, m, μ, []⟩ (Kbody P fn Post)) : Cspec P f vs.toArray m μ Post := fun w hg => by
  refine calls_of_wp hf hb (Code.wp_mono ?_ (h _ w _ hg ⟨?_, fun t v ht => ?_, rfl⟩))
  · rintro e a w' ⟨s, hg', hf', hk⟩
    have hres : ∀ vs, ResAre P s fn.results.toList vs → (results fn a.tmps).run P w' = .ok (tup vs) w' := fun vs hr => by
      have h1 := run_results (P := P) hg' hf' hr
      have h0 : results fn a.tmps = (do
          let vs ← fn.results.mapM (resM a.tmps)
          pure (if h : vs.size = 1 then vs[0] else .tuple vs)) := by
        unfold results
        congr 1
      rw [h0, Sem.run_bind, Array.mapM_eq_mapM_toList, Sem.run_map, h1]
      simp only [Result.andThen_ok, Sem.run_pure, List.size_toArray]
      congr 1
      match vs with
      | [] => simp [tup]
      | [v] => simp [tup]
      | u :: v :: r => simp [tup]
    cases e with
    | normal =>
      obtain ⟨hD, vs, hr, hfin⟩ := hk
      obtain ⟨m', μ', hg2, hq⟩ := hfin _ _ hg'
      exact ⟨hf'.dfr.trans hD, tup vs, hres vs hr, m', μ', hg2, hq⟩
    | ret =>
      obtain ⟨hD, vs, hr, hfin⟩ := hk
      obtain ⟨m', μ', hg2, hq⟩ := hfin _ _ hg'
      exact ⟨hf'.dfr.trans hD, tup vs, hres vs hr, m', μ', hg2, hq⟩
    | panic ch =>
      obtain ⟨hD, hfin⟩ := hk
      obtain ⟨m', μ', hg2, hq⟩ := hfin _ _ hg'
      exact ⟨hf'.dfr.trans hD, m', μ', hg2, hq⟩
    | exit i => exact hk.elim
    | goto l => exact hk.elim
    | outgrown => exact hk.elim
  · have := Nat.le_of_ble_eq_true hle
    simp [hn]; omega
  · obtain ⟨_, h2⟩ := argEnv_get vs 0 t v ht
    simp only [Nat.sub_zero] at h2
    have hlt : t < vs.length := (List.getElem?_eq_some_iff.1 h2).1
    rw [Array.getElem?_append_left (by simpa using hlt)]
    simpa using h2
/-! callees that hand out nothing new -/
theorem Good.forget {w : World} {m' : Mem} (h : Good E w m' μ) (hle : Mem.le m m') (hm : Mem.le E.m m) : Good E w m μ :=
  ⟨h.os, h.tape, h.output, h.size, h.keep, fun b o e => h.sub b o (hle b o e), hm, fun b o e => h.fresh b o (hle b o e), h.holds, fun r hr b hb => ⟨(h.feet r hr b hb).1, by
    cases e : m b with
    | none => rfl
    | some o =>
      have := hle b o e
      rw [(h.feet r hr b hb).2] at this
      cases this⟩, h.apart⟩
theorem Cspec.forget {f : FuncId} {args : Array Value} {Q : Value → Own → Prop} (h : Cspec P f args m μ (Ret fun v _ μ' => Q v μ')) : Cspec P f args m μ (Ret fun v m' μ' => Q v μ' ∧ m' = m) := fun w hg =>
  (h w hg).mono fun e w' ⟨m', μ', hg', hq⟩ => by
    cases e with
    | returned v => exact ⟨m, μ', hg'.forget hg'.mem (Mem.le.refl m), hq, rfl⟩
    | panicked c => exact hq.elim
    | outgrown => exact hq.elim
/-- a function that answers one value and leaves memory as it was -/
def Scal (P : Program) (f : FuncId) (args : Array Value) (m : Mem) (v : Value) : Prop := Cspec P f args m [] (Ret fun u m' _ => u = v ∧ m' = m)
theorem scal_of {f : FuncId} {args : Array Value} {v : Value} (h : Cspec P f args m [] (Ret fun u _ _ => u = v)) : Scal P f args m v := Cspec.forget (Q := fun u _ => u = v) h
theorem xo_callS {f : FuncId} {xs : List Operand} {ts : Array TypeId} {vs : List Value} {v : Value} (hd : Nat.blt d n = true) (hc : callable P f = true) (hv : ovs ρ xs = some vs) (hs : Scal P f vs.toArray m v)
    (k : XO E P n ops rest ⟨(d, v) :: ρ, m, μ, D⟩ K) : XO E P n ops (⟨some d, .call ⟨.value (.func f), xs.toArray, ts⟩, ty, pos, after, none⟩ :: rest) ⟨ρ, m, μ, D⟩ K :=
  xo_call0 hd hc hv hs fun u m' _ _ hq => by
    obtain ⟨rfl, rfl⟩ := hq
    exact k
end
end Go.Gw

/-
  Rows of the run's own: out of a block that was written out; looked at in the middle of a run. Plain lemmas.
-/
import Derived.Test.YtodfpilpdkdapaaGreatDoorGwa
namespace Go.Gw
open Go

section
variable {E : Entry} {P : Program} {n : Nat} {K : Exit → St → Prop} {ρ : Env} {m : Mem} {μ : Own} {D : List Deferred} {ops : Array Oper} {rest : List Oper}
  {d : Nat} {ty : TypeId} {pos : String} {after : Array Edge}
variable {dst : Option Nat} {gd : Option (Nat × Bool)} {T T' : TypeId} {x y z : Operand} {i j : Int}

theorem Good.rowOf {w : World} {q b len sz : Nat} {e : TypeId} {cs : List Value} (h : Good E w m μ) (hq : μ[q]? = some (bx b e cs)) (hl : cs.length = len * sz) (hm : len ≤ maxLen) :
    Good E w m (μ.set q (.row (.slice (some ⟨b, 0, none⟩) len len) e sz len cs)) :=
  h.turnAt hq rfl rfl rfl (Nat.le_refl _) (fun _ _ _ => rfl)
    ⟨hl, .inr ⟨b, len, cs.toArray, rfl, Nat.zero_le _, h.own hq, Nat.le_refl _, hm, by simpa using hl, by rw [List.toList_toArray, ← hl, List.take_length]⟩⟩
    (fun c hc => .inl (by simpa [Res.foot, Value.ownBlock] using hc))
theorem x_rowOf {c : Code} {q b len sz : Nat} {e : TypeId} {cs : List Value} (hq : μ[q]? = some (bx b e cs)) (hl : cs.length = len * sz) (hm : Nat.ble len 1000000 = true)
    (h : X E P n c ⟨ρ, m, μ.set q (.row (.slice (some ⟨b, 0, none⟩) len len) e sz len cs), D⟩ K) : X E P n c ⟨ρ, m, μ, D⟩ K :=
  fun w a hg hf => h w a (hg.rowOf hq hl (by have := Nat.le_of_ble_eq_true hm; unfold maxLen; omega)) hf.same
theorem xo_rowOf {q b len sz : Nat} {e : TypeId} {cs : List Value} (hq : μ[q]? = some (bx b e cs)) (hl : cs.length = len * sz) (hm : Nat.ble len 1000000 = true)
    (h : XO E P n ops rest ⟨ρ, m, μ.set q (.row (.slice (some ⟨b, 0, none⟩) len len) e sz len cs), D⟩ K) : XO E P n ops rest ⟨ρ, m, μ, D⟩ K :=
  fun w a hg hf => h w a (hg.rowOf hq hl (by have := Nat.le_of_ble_eq_true hm; unfold maxLen; omega)) hf.same

theorem xo_rowOpen {q n0 cap sz : Nat} {e : TypeId} {a0 : Option Addr} {xs : List Value} (hq : μ[q]? = some (.row (.slice a0 n0 cap) e sz n0 xs)) (hn : 0 < n0)
    (h : ∀ b, a0 = some ⟨b, 0, none⟩ → XO E P n ops rest ⟨ρ, m, μ, D⟩ K) : XO E P n ops rest ⟨ρ, m, μ, D⟩ K := fun w a hg hf => by
  have hown : w.ownsRow 0 e sz (.slice a0 n0 cap) n0 xs := hg.own hq
  rcases hown.2 with ⟨_, h0⟩ | ⟨g, cap', cur, hv, _⟩
  · omega
  · simp only [Value.slice.injEq] at hv
    exact h g hv.1 w a hg hf

theorem rl_row {ag : Bool} {q b off c n0 cap sz : Nat} {e : TypeId} {xs : List Value} {v : Value} (ht : tk P T = some (ag, c)) (hx : ov ρ x = some (.pointer (some ⟨b, off, none⟩)))
    (hq : μ[q]? = some (.row (.slice (some ⟨b, 0, none⟩) n0 cap) e sz n0 xs)) (hv : loadV ag xs off c = some v) :
    RnL E P n ρ m μ ⟨dst, .load T x, ty, pos, after, gd⟩ v := fun w a hg hf => by
  have hown : w.ownsRow 0 e sz (.slice (some ⟨b, 0, none⟩) n0 cap) n0 xs := hg.own hq
  simp [execOp, Instr.loadAt, hf.ov hx, Instr.sureAddr, run_loadVar_cells (w := w) (b := b) ht (fun j u hu => by
    have := hown.cells (g := b) rfl j u hu
    rwa [Addr.add_lit, Nat.zero_add] at this) hv]
theorem x_perm {c : Code} {μ' : Own} (hs : μ.Perm μ') (h : X E P n c ⟨ρ, m, μ', D⟩ K) : X E P n c ⟨ρ, m, μ, D⟩ K := fun w a hg hf => h w a (hg.perm hs) hf.same
theorem xo_perm {μ' : Own} (hs : μ.Perm μ') (h : XO E P n ops rest ⟨ρ, m, μ', D⟩ K) : XO E P n ops rest ⟨ρ, m, μ, D⟩ K := fun w a hg hf => h w a (hg.perm hs) hf.same
end
end Go.Gw

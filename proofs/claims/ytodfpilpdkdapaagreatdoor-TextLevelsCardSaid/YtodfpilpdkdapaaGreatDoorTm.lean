/-
  Terms as plain data, slices of whatever lies in memory, and how they lie there. Plain definitions and lemmas.
-/
import Derived.Test.YtodfpilpdkdapaaGreatDoorLv
import Derived.Test.YtodfpilpdkdapaaGreatDoorGws
namespace Go.Gw
open Go

/-- a slice whose elements are each of so many cells -/
def SlV {α : Type} (V : Mem → α → List Value → Prop) (sz bound : Nat) (m : Mem) (xs : List α) (sv : Value) : Prop :=
  ∃ a cap, sv = .slice a xs.length cap ∧ xs.length ≤ cap ∧ xs.length ≤ bound ∧ ∀ i x, xs[i]? = some x → ∃ b off cs, a = some ⟨b, off, none⟩ ∧ RdN m b (off + i * sz) cs ∧ V m x cs
theorem SlV.mono {α : Type} {V : Mem → α → List Value → Prop} {sz bound : Nat} {m m' : Mem} {xs : List α} {sv : Value} (h : SlV V sz bound m xs sv) (hV : ∀ x cs, V m x cs → V m' x cs) (hle : Mem.le m m') : SlV V sz bound m' xs sv := by
  obtain ⟨a, cap, h1, h2, h3, h4⟩ := h
  refine ⟨a, cap, h1, h2, h3, fun i x hx => ?_⟩
  obtain ⟨b, off, cs, h5, h6, h7⟩ := h4 i x hx
  exact ⟨b, off, cs, h5, h6.mono hle, hV _ _ h7⟩
theorem SlV.nil {α : Type} {V : Mem → α → List Value → Prop} {sz bound : Nat} {m : Mem} : SlV V sz bound m [] (.slice none 0 0) :=
  ⟨none, 0, rfl, Nat.le_refl _, Nat.zero_le _, fun i x h => by simp at h⟩

/-- rows that were made one by one -/
def AllV {α : Type} (V : Mem → α → List Value → Prop) (sz : Nat) (m : Mem) : List α → List (List Value) → Prop
  | [], [] => True
  | x :: xs, c :: cs => (V m x c ∧ c.length = sz) ∧ AllV V sz m xs cs
  | _, _ => False
section
variable {α : Type} {V : Mem → α → List Value → Prop} {sz : Nat} {m m' : Mem}
theorem AllV.mono (hV : ∀ x cs, V m x cs → V m' x cs) : ∀ {xs : List α} {cs : List (List Value)}, AllV V sz m xs cs → AllV V sz m' xs cs
  | [], [], _ => trivial
  | _ :: _, _ :: _, h => ⟨⟨hV _ _ h.1.1, h.1.2⟩, AllV.mono hV h.2⟩
  | [], _ :: _, h => h.elim
  | _ :: _, [], h => h.elim
theorem AllV.snoc : ∀ {xs : List α} {cs : List (List Value)} {x : α} {c : List Value}, AllV V sz m xs cs → V m x c → c.length = sz → AllV V sz m (xs ++ [x]) (cs ++ [c])
  | [], [], _, _, _, h, h3 => ⟨⟨h, h3⟩, trivial⟩
  | _ :: _, _ :: _, _, _, h, h', h3 => ⟨h.1, AllV.snoc h.2 h' h3⟩
  | [], _ :: _, _, _, h, _, _ => h.elim
  | _ :: _, [], _, _, h, _, _ => h.elim
theorem AllV.length : ∀ {xs : List α} {cs : List (List Value)}, AllV V sz m xs cs → cs.length = xs.length
  | [], [], _ => rfl
  | _ :: _, _ :: _, h => by simp [AllV.length h.2]
  | [], _ :: _, h => h.elim
  | _ :: _, [], h => h.elim
theorem AllV.flatten_length : ∀ {xs : List α} {cs : List (List Value)}, AllV V sz m xs cs → cs.flatten.length = xs.length * sz
  | [], [], _ => by simp
  | _ :: xs, _ :: _, h => by rw [List.flatten_cons, List.length_append, AllV.flatten_length h.2, h.1.2, List.length_cons, Nat.succ_mul, Nat.add_comm]
  | [], _ :: _, h => h.elim
  | _ :: _, [], h => h.elim
theorem AllV.at {b : Nat} : ∀ {xs : List α} {cs : List (List Value)} {off i : Nat} {x : α}, AllV V sz m xs cs → RdN m b off cs.flatten → xs[i]? = some x → ∃ c, RdN m b (off + i * sz) c ∧ V m x c
  | x0 :: xs, c0 :: cs, off, i, x, h, hr, hx => by
    cases i with
    | zero =>
      simp at hx
      subst hx
      refine ⟨c0, fun j v hj => ?_, h.1.1⟩
      have := hr j v (by rw [List.flatten_cons, List.getElem?_append_left (List.getElem?_eq_some_iff.1 hj).1]; exact hj)
      simpa using this
    | succ i =>
      have hr' : RdN m b (off + sz) cs.flatten := fun j v hj => by
        have := hr (sz + j) v (by rw [List.flatten_cons, List.getElem?_append_right (by have := h.1.2; omega), h.1.2]; simpa using hj)
        rwa [← Nat.add_assoc] at this
      obtain ⟨c, h1, h2⟩ := AllV.at h.2 hr' (by simpa using hx)
      refine ⟨c, ?_, h2⟩
      rwa [show off + (i + 1) * sz = off + sz + i * sz by rw [Nat.succ_mul]; omega]
  | [], _, _, i, x, _, _, hx => by simp at hx
  | _ :: _, [], _, _, _, h, _, _ => h.elim
theorem AllV.made {xs : List α} {cs : List (List Value)} {a : Option Addr} {cap bound : Nat} (hz : 0 < sz) (h : AllV V sz m xs cs) (hr : RowAt m a cs.flatten) (hc : xs.length ≤ cap) (hb : xs.length ≤ bound) : SlV V sz bound m xs (.slice a xs.length cap) := by
  refine ⟨a, cap, rfl, hc, hb, fun i x hx => ?_⟩
  rcases hr with hr | ⟨b, rfl, hr⟩
  · have h1 := h.flatten_length
    rw [hr] at h1
    have h2 := (List.getElem?_eq_some_iff.1 hx).1
    have h3 : 0 < xs.length * sz := Nat.mul_pos (by omega) hz
    simp at h1
    omega
  · obtain ⟨c, h1, h2⟩ := h.at hr hx
    exact ⟨b, 0, c, rfl, h1, h2⟩
end

/-- a string in one cell -/
def StrV (_ : Mem) (s : List UInt8) (cs : List Value) : Prop := cs = [str s] ∧ s.length ≤ 140737488355328
abbrev StrsV := SlV StrV 1 8796093022208
theorem StrsV.mono {m m' : Mem} {xs : List (List UInt8)} {sv : Value} (h : StrsV m xs sv) (hle : Mem.le m m') : StrsV m' xs sv := SlV.mono h (fun _ _ h => h) hle

inductive Tm where
  | mk (k n : Int) (s : List UInt8) (ls : List Lv) (ts : List Tm)

mutual
theorem Tm.ind {P : Tm → Prop} (h : ∀ k n s ls ts, (∀ t ∈ ts, P t) → P (.mk k n s ls ts)) : ∀ t, P t
  | .mk k n s ls ts => h k n s ls ts (Tm.inds h ts)
theorem Tm.inds {P : Tm → Prop} (h : ∀ k n s ls ts, (∀ t ∈ ts, P t) → P (.mk k n s ls ts)) : ∀ ts : List Tm, ∀ t ∈ ts, P t
  | [], _, hl => by cases hl
  | x :: r, l, hl => by
    rcases List.mem_cons.1 hl with e | e
    · rw [e]; exact Tm.ind h x
    · exact Tm.inds h r l e
end

inductive TmV (m : Mem) : Tm → List Value → Prop where
  | mk {k n : Int} {s : List UInt8} {ls : List Lv} {ts : List Tm} {la ta : Option Addr} {lcap tcap : Nat} (f : Nat → Nat × Nat × List Value) (hk : i64 k) (hn : i64 n) (hs : s.length ≤ 140737488355328)
    (hl : LvsS m ls (.slice la ls.length lcap)) (hc : ts.length ≤ tcap) (hb : ts.length ≤ 1759218604441)
    (ha : ∀ i x, ts[i]? = some x → ta = some ⟨(f i).1, (f i).2.1, none⟩ ∧ RdN m (f i).1 ((f i).2.1 + i * 5) (f i).2.2) (ht : ∀ i x, ts[i]? = some x → TmV m x (f i).2.2) :
    TmV m (.mk k n s ls ts) [.int .i64 k, .int .i64 n, str s, .slice la ls.length lcap, .slice ta ts.length tcap]

abbrev TmsV := SlV TmV 5 1759218604441

theorem TmV.mono {m m' : Mem} (hle : Mem.le m m') {t : Tm} {cs : List Value} (h : TmV m t cs) : TmV m' t cs := by
  induction h with
  | mk f hk hn hs hl hc hb ha ht ih => exact .mk f hk hn hs (hl.mono hle) hc hb (fun i x hx => ⟨(ha i x hx).1, (ha i x hx).2.mono hle⟩) ih
theorem TmsV.mono {m m' : Mem} {ts : List Tm} {sv : Value} (h : TmsV m ts sv) (hle : Mem.le m m') : TmsV m' ts sv := SlV.mono h (fun _ _ h => TmV.mono hle h) hle
theorem TmV.len {m : Mem} {t : Tm} {cs : List Value} (h : TmV m t cs) : cs.length = 5 := by cases h; rfl

/-- a term as it lies in memory, taken apart -/
theorem TmV.open {m : Mem} {t : Tm} {cs : List Value} (h : TmV m t cs) : ∃ k n s ls ts la lcap ta tcap, t = .mk k n s ls ts ∧ cs = [.int .i64 k, .int .i64 n, str s, .slice la (List.length (α := Lv) ls) lcap, .slice ta (List.length (α := Tm) ts) tcap] ∧
    i64 k ∧ i64 n ∧ s.length ≤ 140737488355328 ∧ LvsS m ls (.slice la ls.length lcap) ∧ TmsV m ts (.slice ta ts.length tcap) := by
  cases h with
  | mk f hk hn hs hl hc hb ha ht => exact ⟨_, _, _, _, _, _, _, _, _, rfl, rfl, hk, hn, hs, hl, _, _, rfl, hc, hb, fun i x hx => ⟨_, _, _, (ha i x hx).1, (ha i x hx).2, ht i x hx⟩⟩
theorem TmV.of {m : Mem} {k n : Int} {s : List UInt8} {ls : List Lv} {ts : List Tm} {la ta : Option Addr} {lcap tcap : Nat} (hk : i64 k) (hn : i64 n) (hs : s.length ≤ 140737488355328)
    (hl : LvsS m ls (.slice la ls.length lcap)) (ht : TmsV m ts (.slice ta ts.length tcap)) : TmV m (.mk k n s ls ts) [.int .i64 k, .int .i64 n, str s, .slice la ls.length lcap, .slice ta ts.length tcap] := by
  obtain ⟨a, cap, h1, h2, h3, h4⟩ := ht
  simp only [Value.slice.injEq, true_and] at h1
  obtain ⟨rfl, rfl⟩ := h1
  have hf : ∃ f : Nat → Nat × Nat × List Value, ∀ i x, ts[i]? = some x → (ta = some ⟨(f i).1, (f i).2.1, none⟩ ∧ RdN m (f i).1 ((f i).2.1 + i * 5) (f i).2.2) ∧ TmV m x (f i).2.2 := by
    refine Classical.axiomOfChoice (r := fun i (p : Nat × Nat × List Value) => ∀ x, ts[i]? = some x → (ta = some ⟨p.1, p.2.1, none⟩ ∧ RdN m p.1 (p.2.1 + i * 5) p.2.2) ∧ TmV m x p.2.2) fun i => ?_
    cases h : ts[i]? with
    | none => exact ⟨(0, 0, []), fun x hx => by cases hx⟩
    | some x =>
      obtain ⟨b, off, cs, h5, h6, h7⟩ := h4 i x h
      exact ⟨(b, off, cs), fun y hy => by cases hy; exact ⟨⟨h5, h6⟩, h7⟩⟩
  obtain ⟨f, hf⟩ := hf
  exact .mk f hk hn hs hl h2 h3 (fun i x hx => (hf i x hx).1) (fun i x hx => (hf i x hx).2)

/-- an element of a slice of terms, taken apart -/
theorem TmsV.at {m : Mem} {ts : List Tm} {a : Option Addr} {len cap : Nat} (h : TmsV m ts (.slice a len cap)) {i : Nat} {x : Tm} (hx : ts[i]? = some x) : ∃ b off k n s ls us la lcap ta tcap, a = some ⟨b, off, none⟩ ∧ x = .mk k n s ls us ∧
    RdN m b (off + i * 5) [.int .i64 k, .int .i64 n, str s, .slice la (List.length (α := Lv) ls) lcap, .slice ta (List.length (α := Tm) us) tcap] ∧ TmV m x [.int .i64 k, .int .i64 n, str s, .slice la ls.length lcap, .slice ta us.length tcap] := by
  obtain ⟨a', cap', h1, h2, h3, h4⟩ := h
  simp only [Value.slice.injEq] at h1
  obtain ⟨rfl, rfl, rfl⟩ := h1
  obtain ⟨b, off, cs, h5, h6, h7⟩ := h4 i x hx
  have h8 := h7
  obtain ⟨k, n, s, ls, us, la, lcap, ta, tcap, e1, e2, -⟩ := h7.open
  rw [e2] at h6 h8
  exact ⟨b, off, k, n, s, ls, us, la, lcap, ta, tcap, h5, e1, h6, h8⟩

end Go.Gw

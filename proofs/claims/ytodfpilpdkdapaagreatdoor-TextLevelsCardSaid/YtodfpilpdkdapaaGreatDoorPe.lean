/-
  Levels and terms as values of the plain machine; strings in it; what a round of a loop leaves. No statement of the seat.
-/
import Derived.Test.YtodfpilpdkdapaaGreatDoorVm
import Derived.Test.YtodfpilpdkdapaaGreatDoorNt
import Derived.Test.YtodfpilpdkdapaaGreatDoorGws
import Derived.Test.YtodfpilpdkdapaaGreatDoorTy
namespace Go.Proofs.YtodfpilpdkdapaaGreatDoor
open Go Go.Am Go.Gw

abbrev iv (n : Int) : PV := .sc (.int .i64 n)
abbrev bv (b : Bool) : PV := .sc (.bool b)

mutual
def LvP : Lv → PV → Prop
  | .mk k n ls, v => ∃ b z xs, v = .ag [iv k, iv n, .sl b z xs] ∧ (z = 3 ∨ xs = []) ∧ LvsP ls xs ∧ ls.length ≤ 3518437208780
def LvsP : List Lv → List PV → Prop
  | [], xs => xs = []
  | l :: r, xs => ∃ v xs', xs = v :: xs' ∧ LvP l v ∧ LvsP r xs'
end
theorem LvsP.len : ∀ {ls : List Lv} {xs : List PV}, LvsP ls xs → xs.length = ls.length
  | [], xs, h => by simp only [LvsP] at h; simp [h]
  | l :: r, xs, h => by
    simp only [LvsP] at h
    obtain ⟨v, xs', rfl, _, h⟩ := h
    simp [LvsP.len h]
theorem LvsP.at : ∀ {ls : List Lv} {xs : List PV} {i : Nat} {l : Lv}, LvsP ls xs → ls[i]? = some l → ∃ v, xs[i]? = some v ∧ LvP l v
  | [], xs, i, l, _, h => by simp at h
  | x :: r, xs, i, l, h, e => by
    simp only [LvsP] at h
    obtain ⟨v, xs', rfl, h1, h2⟩ := h
    cases i with
    | zero => simp at e; subst e; exact ⟨v, rfl, h1⟩
    | succ i => simpa using LvsP.at h2 (by simpa using e)
theorem LvP.open {l : Lv} {v : PV} (h : LvP l v) : ∃ k n ls b z xs, l = .mk k n ls ∧ v = .ag [iv k, iv n, .sl b z xs] ∧ (z = 3 ∨ xs = []) ∧ LvsP ls xs ∧ xs.length = ls.length ∧ ls.length ≤ 3518437208780 := by
  obtain ⟨k, n, ls⟩ := l
  simp only [LvP] at h
  obtain ⟨b, z, xs, rfl, hz, hxs, hb⟩ := h
  exact ⟨k, n, ls, b, z, xs, rfl, rfl, hz, hxs, hxs.len, hb⟩


abbrev sv (l : List UInt8) : PV := .sc (str l)
abbrev svs (l : List (List UInt8)) : List PV := l.map sv
mutual
def TmP : Tm → PV → Prop
  | .mk k n s ls ts, v => ∃ b z xs c y ys, v = .ag [iv k, iv n, sv s, .sl b z xs, .sl c y ys] ∧ (z = 3 ∨ xs = []) ∧ LvsP ls xs ∧ ls.length ≤ 3518437208780 ∧ (y = 5 ∨ ys = []) ∧ TmsP ts ys ∧ ts.length ≤ 3518437208780 ∧ s.length ≤ 140737488355328 ∧ i64 n
def TmsP : List Tm → List PV → Prop
  | [], xs => xs = []
  | l :: r, xs => ∃ v xs', xs = v :: xs' ∧ TmP l v ∧ TmsP r xs'
end
theorem TmsP.len : ∀ {ls : List Tm} {xs : List PV}, TmsP ls xs → xs.length = ls.length
  | [], xs, h => by simp only [TmsP] at h; simp [h]
  | l :: r, xs, h => by
    simp only [TmsP] at h
    obtain ⟨v, xs', rfl, _, h⟩ := h
    simp [TmsP.len h]
theorem TmsP.at : ∀ {ls : List Tm} {xs : List PV} {i : Nat} {l : Tm}, TmsP ls xs → ls[i]? = some l → ∃ v, xs[i]? = some v ∧ TmP l v
  | [], xs, i, l, _, h => by simp at h
  | x :: r, xs, i, l, h, e => by
    simp only [TmsP] at h
    obtain ⟨v, xs', rfl, h1, h2⟩ := h
    cases i with
    | zero => simp at e; subst e; exact ⟨v, rfl, h1⟩
    | succ i => simpa using TmsP.at h2 (by simpa using e)
theorem TmP.open {t : Tm} {v : PV} (h : TmP t v) : ∃ k n s ls ts b z xs c y ys, t = .mk k n s ls ts ∧ v = .ag [iv k, iv n, sv s, .sl b z xs, .sl c y ys] ∧ (z = 3 ∨ xs = []) ∧ LvsP ls xs ∧ xs.length = ls.length ∧ ls.length ≤ 3518437208780 ∧ (y = 5 ∨ ys = []) ∧ TmsP ts ys ∧ ys.length = ts.length ∧ ts.length ≤ 3518437208780 ∧ s.length ≤ 140737488355328 := by
  obtain ⟨k, n, s, ls, ts⟩ := t
  simp only [TmP] at h
  obtain ⟨b, z, xs, c, y, ys, rfl, hz, hxs, hb, hy, hys, hc, hs, _⟩ := h
  exact ⟨k, n, s, ls, ts, b, z, xs, c, y, ys, rfl, rfl, hz, hxs, hxs.len, hb, hy, hys, hys.len, hc, hs⟩

theorem TmP.num {k n : Int} {s : List UInt8} {ls : List Lv} {ts : List Tm} {v : PV} (h : TmP (.mk k n s ls ts) v) : i64 n := by
  simp only [TmP] at h
  obtain ⟨b, z, xs, c, y, ys, rfl, hz, hxs, hb, hy, hys, hc, hs, hn⟩ := h
  exact hn

/-! operations on strings -/
theorem sadd {P : Program} {T : TypeId} {x y : Operand} {a b : List UInt8} (h : a.length + b.length ≤ 9223372036854775807) : slowBin P .add T x y (sv a) (sv b) = some (sv (a ++ b)) := by
  have : ¬ (((⟨a.toArray⟩ : ByteArray).size + (⟨b.toArray⟩ : ByteArray).size : Nat) : Int) > IntKind.i64.max := by
    rw [ba_size, ba_size]
    simp [IntKind.max, IntKind.signed, IntKind.bits]
    omega
  simp only [slowBin, toVal, eqGuard, binOp, Op.stringOp, if_neg this, ba_append]
  rfl
theorem seql {P : Program} {T : TypeId} {x y : Operand} {a b : List UInt8} : slowBin P .eql T x y (sv a) (sv b) = some (bv (a == b)) := by
  simp only [slowBin, toVal, eqGuard, binOp, Op.stringOp, ba_toList]
  rfl
theorem sneq {P : Program} {T : TypeId} {x y : Operand} {a b : List UInt8} : slowBin P .neq T x y (sv a) (sv b) = some (bv (!(a == b))) := by
  simp only [slowBin, toVal, eqGuard, binOp, Op.stringOp, ba_toList]
  rfl

/-- an operation on two strings -/
def strOp (op : BinOp) (a b : List UInt8) (K : PV → Prop) : Prop := match op with
  | .add => VOk (decide (a.length + b.length ≤ 9223372036854775807)) (K (sv (a ++ b)))
  | .eql => K (bv (a == b))
  | .neq => K (bv (!(a == b)))
  | _ => False
theorem vres_str {P : Program} {op : BinOp} {T : TypeId} {x y : Operand} {a b : List UInt8} {K : PV → Prop} (h : strOp op a b K) : VRes (slowBin P op T x y (sv a) (sv b)) K := by
  cases op with
  | add => exact ⟨_, sadd (of_decide_eq_true h.h), h.k⟩
  | eql => exact ⟨_, seql, h⟩
  | neq => exact ⟨_, sneq, h⟩
  | _ => exact h.elim

/-! what a round leaves, where nothing of the store refers to anything of it -/
def plainSO (o : SO) : Prop := idsSO o = [] ∧ ∀ f, soIn f o = true
theorem pur_ids : ∀ {n : Nat} {x : PV}, pur n x = true → ids n x = [] ∧ ∀ f, inIds f n x = true
  | 0, x, h => by simp [pur] at h
  | n + 1, x, h => by
    have hall : ∀ {l : List PV}, l.all (pur n) = true → l.flatMap (ids n) = [] ∧ ∀ f, l.all (inIds f n) = true := fun {l} hl => by
      rw [List.all_eq_true] at hl
      exact ⟨by rw [List.flatMap_eq_nil_iff]; exact fun y hy => (pur_ids (hl y hy)).1, fun f => List.all_eq_true.2 fun y hy => (pur_ids (hl y hy)).2 f⟩
    cases x with
    | ag cs => simp only [pur] at h; exact hall h
    | tu cs => simp only [pur] at h; exact hall h
    | fn f a b =>
      simp only [pur, Bool.and_eq_true] at h
      refine ⟨by simp only [ids, (hall h.1).1, (hall h.2).1, List.append_nil], fun f => by simp only [inIds, (hall h.1).2 f, (hall h.2).2 f, Bool.and_self]⟩
    | ifc t x =>
      simp only [pur] at h
      show ids n x = [] ∧ ∀ f, inIds f n x = true
      exact pur_ids (n := n) h
    | _ => first | (simp [pur] at h; done) | exact ⟨rfl, fun _ => rfl⟩
theorem plain_box {T : TypeId} {cs : List PV} (h : cs.all (pur 8) = true) : plainSO (.box T cs) := by
  rw [List.all_eq_true] at h
  exact ⟨by simp only [idsSO]; rw [List.flatMap_eq_nil_iff]; exact fun y hy => (pur_ids (h y hy)).1, fun f => List.all_eq_true.2 fun y hy => (pur_ids (h y hy)).2 f⟩
theorem plain_row {b : Bool} {T : TypeId} {z : Nat} {cs : List PV} (h : cs.all (pur 8) = true) : plainSO (.row b T z cs) := by
  rw [List.all_eq_true] at h
  exact ⟨by simp only [idsSO]; rw [List.flatMap_eq_nil_iff]; exact fun y hy => (pur_ids (h y hy)).1, fun f => List.all_eq_true.2 fun y hy => (pur_ids (h y hy)).2 f⟩
theorem plain_dead : plainSO .dead := ⟨rfl, fun _ => rfl⟩
def PlainL : Sto → Prop
  | [] => True
  | o :: r => plainSO o ∧ PlainL r
theorem PlainL.mem : ∀ {st : Sto}, PlainL st → ∀ o ∈ st, plainSO o
  | [], _, o, h => by cases h
  | a :: r, h, o, ho => by
    rcases List.mem_cons.1 ho with rfl | ho
    · exact h.1
    · exact PlainL.mem h.2 o ho
theorem close_plain {st : Sto} (h : ∀ o ∈ st, plainSO o) : ∀ (n : Nat) (work acc : List Nat), close st n work acc = close [] n work acc
  | 0, _, _ => rfl
  | n + 1, [], _ => rfl
  | n + 1, i :: r, acc => by
    cases hi : st[i]? with
    | none => simp only [close, hi, close_plain h n, List.getElem?_nil]
    | some o => simp only [close, hi, (h o (List.mem_of_getElem? hi)).1, close_plain h n, List.getElem?_nil]
theorem sweep_mem {k0 : Nat} {acc : List Nat} : ∀ {st : Sto} {k : Nat} {o : SO}, o ∈ sweep k0 acc k st → o = .dead ∨ o ∈ st
  | [], _, _, h => by cases h
  | a :: r, k, o, h => by
    simp only [sweep, List.mem_cons] at h
    rcases h with h | h
    · split at h
      · exact .inr (h ▸ List.mem_cons_self)
      · exact .inl h
    · exact (sweep_mem h).imp id (List.mem_cons_of_mem _)
theorem trim_mem : ∀ {k : Nat} {st : Sto} {o : SO}, o ∈ trim k st → o ∈ st
  | _, [], _, h => by cases h
  | 0, a :: r, o, h => by
    simp only [trim] at h
    split at h
    · cases h
    · rcases List.mem_cons.1 h with rfl | h
      · exact List.mem_cons_self
      · exact List.mem_cons_of_mem _ (trim_mem h)
  | k + 1, a :: r, o, h => by
    simp only [trim] at h
    rcases List.mem_cons.1 h with rfl | h
    · exact List.mem_cons_self
    · exact List.mem_cons_of_mem _ (trim_mem h)
theorem gc_plain {k0 : Nat} {ρ : AEnv} {st st' : Sto} {acc : List Nat} (h : PlainL st) (hb : Nat.beq st.length k0 = false) (hacc : close [] 64 (ρ.flatMap fun p => ids 8 p.2) [] = acc) (hs : trim k0 (sweep k0 acc 0 st) = st') (hρ : ρ.all (fun p => inIds (fun i => Nat.blt i st'.length) 8 p.2) = true) : gc k0 ρ st = st' := by
  have hp := h.mem
  have e : (st.take k0).flatMap idsSO = [] := by rw [List.flatMap_eq_nil_iff]; exact fun o ho => (hp o (List.mem_of_mem_take ho)).1
  have hst : st'.all (soIn fun i => Nat.blt i st'.length) = true := List.all_eq_true.2 fun o ho => by
    rw [← hs] at ho
    rcases sweep_mem (trim_mem ho) with rfl | ho
    · rfl
    · exact (hp o ho).2 _
  unfold gc
  simp only [hb, e, List.append_nil, close_plain hp, hacc, hs, hρ, hst, Bool.and_self]
theorem svs_pure (l : List (List UInt8)) : (svs l).all (pur 8) = true := by
  rw [List.all_eq_true]
  intro x hx
  obtain ⟨s, _, rfl⟩ := List.mem_map.1 hx
  rfl
theorem svs_pure6 (l : List (List UInt8)) : (svs l).all (pur 6) = true := by
  rw [List.all_eq_true]
  intro x hx
  obtain ⟨s, _, rfl⟩ := List.mem_map.1 hx
  rfl
/-- a row that was made is handed back -/
theorem vret_row {C : Cfg} {f : FuncId} {b : Bool} {T : TypeId} {z i n : Nat} {xs : List PV} {st : Sto} {Q : AEnd → Sto → Prop} (hk : C.keep f = false) (hst : st[i]? = some (.row b T z xs)) (hn : n = xs.length) (hp : xs.all (pur 6) = true) (k : Q (.ret [.sl false z xs]) []) : VRet C f 0 [.ms i n] st Q := by
  refine ⟨[.sl false z xs], [], ?_, k⟩
  have : (Nat.beq n xs.length && xs.all (pur 6)) = true := by rw [hp, hn, Nat.beq_refl]; rfl
  simp only [aret, hk, pubL, mapS, pubV, pubRow, hst, this]
  rfl

/-- there is room for one more -/
theorem grow_ok {n m t t' a b by_ w r : Nat} {xs : List PV} (h : xs.length = n) (ht : Nat.beq t t' = true) (ha : Nat.beq a b = true) (hw : by_ = w) (hr : room = r) (h1 : m * w ≤ r) (h2 : m ≤ r) : (Nat.beq n xs.length && Nat.beq t t' && Nat.beq a b && fits m by_) = true := by
  subst h hw hr
  rw [ht, ha, Nat.beq_refl, fits, Nat.ble_eq_true_of_le h1, Nat.ble_eq_true_of_le h2]
  rfl

theorem grow_ok2 {m a b by_ w r : Nat} {e : Bool} (ha : Nat.beq a b = true) (hw : by_ = w) (hr : room = r) (h1 : m * w ≤ r) (h2 : m ≤ r) : (true && (Nat.beq a b || e) && fits m by_) = true := by
  subst hw hr
  rw [ha, fits, Nat.ble_eq_true_of_le h1, Nat.ble_eq_true_of_le h2]
  rfl

/-! the library's functions -/
theorem mapO_svs : ∀ (l : List (List UInt8)), mapO strOf (svs l) = some (l.map fun s => ⟨s.toArray⟩)
  | [] => rfl
  | s :: r => by
    have := mapO_svs r
    simp only [svs] at this ⊢
    simp only [List.map_cons, mapO, strOf, this]
theorem map_bl : ∀ (l : List (List UInt8)), (l.map fun s => (⟨s.toArray⟩ : ByteArray)).map bl = l
  | [] => rfl
  | s :: r => by simp only [List.map_cons, map_bl r, bl]
theorem join_can {b : Bool} {z : Nat} {xs : List (List UInt8)} {sep : List UInt8} (h1 : xs.length ≤ 1000000000) (h2 : (Lib.join xs sep).length ≤ 1000000000) : Pf C1 18 [.sl b z (svs xs), sv sep] [sv (Lib.join xs sep)] := by
  refine pf_nat rfl ?_
  have e : bl ⟨sep.toArray⟩ = sep := rfl
  simp only [Am.joinF, mapO_svs, map_bl, e]
  rw [show (Nat.ble (xs.map fun s => (⟨s.toArray⟩ : ByteArray)).length 1000000000 && Nat.ble (Lib.join xs sep).length 1000000000) = true by rw [List.length_map, Nat.ble_eq_true_of_le h1, Nat.ble_eq_true_of_le h2]; rfl]
  rfl
end Go.Proofs.YtodfpilpdkdapaaGreatDoor

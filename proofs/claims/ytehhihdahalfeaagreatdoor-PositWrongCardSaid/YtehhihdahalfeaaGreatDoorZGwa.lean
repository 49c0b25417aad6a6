/-
  A region that draws its order, over the small logic of blocks: operations that only look are taken as early as they can be, and hold what they answered till they are carried out. Plain lemmas, no statement of the seat.
-/
import Derived.Test.YtehhihdahalfeaaGreatDoorZGwo
import Derived.Orders
set_option linter.unusedVariables false
set_option linter.unusedSimpArgs false
set_option linter.unnecessarySimpa false
namespace Go.Gw
open Go
def osl : Operand → List Nat
  | .tmp t => [t]
  | _ => []
def gsl (ops : Array Oper) : Option (Nat × Bool) → List Nat
  | some (j, _) => match (ops[j]?).bind (·.dst) with
    | some t => [t]
    | none => []
  | none => []
/-- the slots that an operation looks at -/
def looks (ops : Array Oper) (o : Oper) : List Nat := o.op.operands.toList.flatMap osl ++ gsl ops o.guard
/-- what must be carried out ahead of it -/
def deps (o : Oper) : List Nat := (o.after.toList.filter (Region.binds .any)).map (·.on)
def statPair (ops : Array Oper) (i : Nat) (o : Oper) (k : Nat) : Bool :=
  match ops[k]? with
  | none => true
  | some o' => match o'.dst with
    | none => true
    | some d => if k = i then !(looks ops o).contains d else (!(looks ops o).contains d || (deps o).contains k) && !(o.dst == some d)
def statOne (ops : Array Oper) (i : Nat) : Bool :=
  match ops[i]? with
  | none => true
  | some o => (deps o).all (fun x => Nat.blt x i) && (List.range ops.size).all (statPair ops i o)
def statOk (ops : Array Oper) : Bool := (List.range ops.size).all (statOne ops)
theorem stat_one {ops : Array Oper} (h : statOk ops = true) {i : Nat} {o : Oper} (ho : ops[i]? = some o) : (∀ x ∈ deps o, x < i) ∧ ∀ k o' d, ops[k]? = some o' → o'.dst = some d →
    (k = i → d ∉ looks ops o) ∧ (k ≠ i → (d ∈ looks ops o → k ∈ deps o) ∧ o.dst ≠ some d) := by
  have hi : i < ops.size := (Array.getElem?_eq_some_iff.1 ho).1
  have h1 := List.all_eq_true.1 h i (List.mem_range.2 hi)
  unfold statOne at h1
  rw [ho] at h1
  simp only [Bool.and_eq_true] at h1
  refine ⟨fun x hx => by simpa [Nat.blt_eq] using List.all_eq_true.1 h1.1 x hx, fun k o' d hk hd => ?_⟩
  have hk' : k < ops.size := (Array.getElem?_eq_some_iff.1 hk).1
  have h2 := List.all_eq_true.1 h1.2 k (List.mem_range.2 hk')
  unfold statPair at h2
  rw [hk] at h2
  simp only [hd] at h2
  refine ⟨fun e => ?_, fun e => ?_⟩
  · rw [if_pos e] at h2
    simpa using h2
  · rw [if_neg e] at h2
    simp only [Bool.and_eq_true, Bool.or_eq_true, Bool.not_eq_true', beq_eq_false_iff_ne] at h2
    refine ⟨fun hm => ?_, h2.2⟩
    rcases h2.1 with h3 | h3
    · exact absurd hm (by simpa using h3)
    · simpa using h3
structure Pn where
  i : Nat
  d : Nat
  v : Value
  o : Oper
  ρo : Env
def Evals (P : Program) (ops : Array Oper) (o : Oper) (a : Act) (w : World) (v : Value) : Prop :=
  (Region.wanted o (yielded ops a.tmps) = true → (execOp a.eval o).run P w = .ok (.value v) w) ∧ (Region.wanted o (yielded ops a.tmps) = false → v = undef)
def PvP (P : Program) (n : Nat) (ops : Array Oper) (o : Oper) (ρ : Env) (v : Value) : Prop := ∀ w a, FitsE n ρ a → Evals P ops o a w v
def PvL (E : Entry) (P : Program) (n : Nat) (ops : Array Oper) (o : Oper) (ρ : Env) (m : Mem) (μ : Own) (v : Value) : Prop := ∀ w a, Good E w m μ → FitsE n ρ a → Evals P ops o a w v
structure PnOk (ops : Array Oper) (n : Nat) (L : List Nat) (ρ : Env) (p : Pn) : Prop where
  op : ops[p.i]? = some p.o
  dst : p.o.dst = some p.d
  lt : p.d < n
  val : eget ρ p.d = some p.v
  env : ∀ t u, eget p.ρo t = some u → eget ρ t = some u ∧ t ∈ looks ops p.o
  dep : ∀ x ∈ deps p.o, x ∈ L
structure AInv (E : Entry) (P : Program) (n : Nat) (ops : Array Oper) (L : List Nat) (pp pl : List Pn) (s : St) (A : Array Bool) (a : Act) (w : World) : Prop where
  good : Good E w s.m s.μ
  size : A.size = ops.size
  sub : ∀ i, i < ops.size → A.getD i true = true → i ∈ L
  pend : ∀ i ∈ L, i < ops.size → A.getD i true = false → ∃ p ∈ pp ++ pl, p.i = i
  tsz : a.tmps.size = n
  dfr : a.defers = s.D
  fit : ∀ t v, eget s.ρ t = some v → (∀ p ∈ pp ++ pl, A.getD p.i true = false → p.d ≠ t) → a.tmps[t]? = some v
  okp : ∀ p ∈ pp ++ pl, PnOk ops n L s.ρ p
  evp : ∀ p ∈ pp, PvP P n ops p.o p.ρo p.v
  evl : ∀ p ∈ pl, PvL E P n ops p.o p.ρo s.m s.μ p.v
  clo : ∀ i o, ops[i]? = some o → A.getD i true = true → ∀ x ∈ deps o, A.getD x true = true
def cnt (ops : Array Oper) (A : Array Bool) : Nat := (List.range ops.size).countP fun i => !A.getD i true
def XA (E : Entry) (P : Program) (n : Nat) (ops : Array Oper) (L : List Nat) (pp pl : List Pn) (s : St) (K : Exit → St → Prop) : Prop :=
  ∀ fuel A a w, AInv E P n ops L pp pl s A a w → cnt ops A ≤ fuel → wpAny P .any ops (Lift E n K) fuel A a w
section
variable {E : Entry} {P : Program} {n : Nat} {K : Exit → St → Prop} {ops : Array Oper} {L : List Nat} {pp pl : List Pn} {s : St} {A : Array Bool} {a : Act} {w : World}
theorem mem_ready {i : Nat} (h : i ∈ Region.ready .any ops A) : i < ops.size ∧ A.getD i true = false ∧ ∃ o, ops[i]? = some o ∧ ∀ x ∈ deps o, A.getD x false = true := by
  unfold Region.ready at h
  rw [List.mem_filter] at h
  obtain ⟨h1, h2⟩ := h
  simp only [Bool.and_eq_true, Bool.not_eq_true'] at h2
  refine ⟨List.mem_range.1 h1, h2.1, ?_⟩
  cases ho : ops[i]? with
  | none => simp [ho] at h2
  | some o =>
    refine ⟨o, rfl, fun x hx => ?_⟩
    simp only [ho, Option.map_some, Option.getD_some] at h2
    unfold deps at hx
    obtain ⟨e, he, rfl⟩ := List.mem_map.1 hx
    rw [List.mem_filter] at he
    have := Array.all_eq_true'.1 h2.2 e (by simpa using he.1)
    simpa [he.2] using this
theorem ready_ne (hst : statOk ops = true) (hA : A.size = ops.size) {i : Nat} (hi : i < ops.size) (hf : A.getD i true = false) : Region.ready .any ops A ≠ [] := by
  induction i using Nat.strongRecOn with
  | _ i ih =>
    obtain ⟨o, ho⟩ : ∃ o, ops[i]? = some o := ⟨_, Array.getElem?_eq_getElem hi⟩
    by_cases hd : ∀ x ∈ deps o, A.getD x false = true
    · intro e
      have : i ∈ Region.ready .any ops A := by
        unfold Region.ready
        rw [List.mem_filter]
        refine ⟨List.mem_range.2 hi, ?_⟩
        simp only [hf, Bool.not_false, Bool.true_and, ho, Option.map_some, Option.getD_some]
        refine Array.all_eq_true'.2 fun e' he' => ?_
        by_cases hb : Region.binds .any e' = true
        · have := hd e'.on (by unfold deps; exact List.mem_map.2 ⟨e', List.mem_filter.2 ⟨by simpa using he', hb⟩, rfl⟩)
          simp [this]
        · simp [hb]
      rw [e] at this
      cases this
    · simp only [Classical.not_forall] at hd
      obtain ⟨x, hx, hxf⟩ := hd
      have hlt := (stat_one hst ho).1 x hx
      refine ih x hlt (by omega) ?_
      have hx' : x < A.size := by omega
      simp only [Array.getD_eq_getD_getElem?, Array.getElem?_eq_getElem hx', Option.getD_some] at hxf ⊢
      simpa using hxf
theorem cnt_set (hA : A.size = ops.size) {i : Nat} (hi : i < ops.size) (hf : A.getD i true = false) {fuel : Nat} (h : cnt ops A ≤ fuel + 1) : cnt ops (A.setIfInBounds i true) ≤ fuel := by
  have key : ∀ (l : List Nat), l.Nodup → i ∈ l → l.countP (fun j => !(A.setIfInBounds i true).getD j true) + 1 ≤ l.countP (fun j => !A.getD j true) := by
    intro l
    induction l with
    | nil => intro _ h; cases h
    | cons x l ih =>
      intro hn hm
      rw [List.nodup_cons] at hn
      have hle : ∀ l : List Nat, l.countP (fun j => !(A.setIfInBounds i true).getD j true) ≤ l.countP (fun j => !A.getD j true) := fun l => by
        apply List.countP_mono_left
        intro j _ hj
        simp only [Array.getD_eq_getD_getElem?, Array.getElem?_setIfInBounds, Bool.not_eq_true'] at hj ⊢
        split at hj
        · split at hj <;> simp at hj
        · exact hj
      rw [List.countP_cons, List.countP_cons]
      by_cases hx : x = i
      · subst hx
        have h1 : (A.setIfInBounds x true).getD x true = true := by
          simp [Array.getD_eq_getD_getElem?, Array.getElem?_setIfInBounds, hA, hi]
        simp only [h1, hf, Bool.not_true, Bool.not_false]
        have := hle l
        simp only [Bool.false_eq_true, if_false, if_true]
        omega
      · have h2 : (A.setIfInBounds i true).getD x true = A.getD x true := by
          simp [Array.getD_eq_getD_getElem?, Array.getElem?_setIfInBounds, Ne.symm hx]
        rw [h2]
        rcases List.mem_cons.1 hm with h3 | h3
        · exact absurd h3.symm hx
        · have := ih hn.2 h3
          omega
  have := key (List.range ops.size) List.nodup_range (List.mem_range.2 hi)
  unfold cnt at h ⊢
  omega
theorem getD_true_of {i : Nat} (hA : A.size = ops.size) (hi : i < ops.size) (h : A.getD i false = true) : A.getD i true = true := by
  have hi' : i < A.size := by omega
  simp only [Array.getD_eq_getD_getElem?, Array.getElem?_eq_getElem hi', Option.getD_some] at h ⊢
  exact h
theorem getD_set {i j : Nat} (hA : A.size = ops.size) (hi : i < ops.size) : (A.setIfInBounds i true).getD j true = if j = i then true else A.getD j true := by
  simp only [Array.getD_eq_getD_getElem?, Array.getElem?_setIfInBounds]
  by_cases h : i = j
  · subst h; simp [hA, hi]
  · simp [h, Ne.symm h]
/-- a pending operation is carried out -/
theorem getD_up {A : Array Bool} {x : Nat} (h : A.getD x false = true) : A.getD x true = true := by
  rw [Array.getD_eq_getD_getElem?] at h ⊢
  cases e : A[x]? with
  | none => rw [e] at h; cases h
  | some b => rw [e] at h; exact h
theorem clo_set (h : ∀ i o, ops[i]? = some o → A.getD i true = true → ∀ x ∈ deps o, A.getD x true = true) (hA : A.size = ops.size) {j : Nat} {o : Oper} (hj : j < ops.size) (ho : ops[j]? = some o) (hd : ∀ x ∈ deps o, A.getD x false = true) :
    ∀ i o, ops[i]? = some o → (A.setIfInBounds j true).getD i true = true → ∀ x ∈ deps o, (A.setIfInBounds j true).getD x true = true := by
  intro i q hq hi x hx
  have hup : A.getD x true = true → (A.setIfInBounds j true).getD x true = true := fun e => by
    rw [getD_set hA hj]
    split
    · rfl
    · exact e
  rw [getD_set hA hj] at hi
  by_cases hij : i = j
  · subst hij
    rw [ho] at hq
    cases Option.some.inj hq
    exact hup (getD_up (hd x hx))
  · rw [if_neg hij] at hi
    exact hup (h i q hq hi x hx)
theorem AInv.exec (hst : statOk ops = true) (h : AInv E P n ops L pp pl s A a w) {p : Pn} (hp : p ∈ pp ++ pl) (hi : p.i < ops.size) (hf : A.getD p.i true = false) (hdep : ∀ x ∈ deps p.o, A.getD x false = true) (hL : p.i ∈ L) :
    Evals P ops p.o a w p.v ∧ AInv E P n ops L pp pl s (A.setIfInBounds p.i true) (a.put (some p.d) p.v) w := by
  have hok := h.okp p hp
  have hfe : FitsE n p.ρo a := ⟨h.tsz, fun t u ht => by
    obtain ⟨h1, h2⟩ := hok.env t u ht
    refine h.fit t u h1 fun p' hp' hf' e => ?_
    have hok' := h.okp p' hp'
    have hs := (stat_one hst hok.op).2 p'.i p'.o p'.d hok'.op hok'.dst
    by_cases hpi : p'.i = p.i
    · exact hs.1 hpi (e ▸ h2)
    · have hd := (hs.2 hpi).1 (e ▸ h2)
      have h3 := hdep _ hd
      have hlt : p'.i < ops.size := (Array.getElem?_eq_some_iff.1 hok'.op).1
      rw [getD_true_of h.size hlt h3] at hf'
      cases hf'⟩
  refine ⟨?_, ?_⟩
  · rcases List.mem_append.1 hp with h1 | h1
    · exact h.evp p h1 w a hfe
    · exact h.evl p h1 w a h.good hfe
  · refine ⟨h.good, by simp [h.size], fun i hi' e => ?_, fun i hi' hlt e => ?_, by simp [Act.put, h.tsz], h.dfr, fun t v ht hne => ?_, h.okp, h.evp, h.evl, clo_set h.clo h.size hi hok.op hdep⟩
    · rw [getD_set h.size hi] at e
      by_cases hii : i = p.i
      · rw [hii]; exact hL
      · rw [if_neg hii] at e; exact h.sub i hi' e
    · rw [getD_set h.size hi] at e
      by_cases hii : i = p.i
      · rw [if_pos hii] at e; cases e
      · rw [if_neg hii] at e; exact h.pend i hi' hlt e
    · have hd' : p.d < a.tmps.size := by rw [h.tsz]; exact hok.lt
      by_cases htd : p.d = t
      · subst htd
        rw [hok.val] at ht
        cases ht
        simp [Act.put, Array.getElem?_setIfInBounds, hd']
      · simp only [Act.put, Array.getElem?_setIfInBounds, htd, if_false]
        refine h.fit t v ht fun p' hp' hf' => ?_
        by_cases hpi : p'.i = p.i
        · have hok' := h.okp p' hp'
          have e1 := hok'.op
          rw [hpi, hok.op] at e1
          have e3 : p.o = p'.o := Option.some.inj e1
          have e2 := hok'.dst
          rw [← e3, hok.dst] at e2
          have e4 : p.d = p'.d := Option.some.inj e2
          rw [← e4]
          exact htd
        · refine hne p' hp' ?_
          rw [getD_set h.size hi, if_neg hpi]
          exact hf'
/-- what is pending is carried out in whatever order, till something else is ready, or nothing is left -/
theorem xa_sim (hst : statOk ops = true) {Q : Exit → Act → World → Prop}
    (other : ∀ j o fuel A a, AInv E P n ops L pp pl s A a w → j < ops.size → j ∉ L → ops[j]? = some o → (∀ x ∈ deps o, A.getD x false = true) → cnt ops (A.setIfInBounds j true) ≤ fuel → wpOp P ops Q j (wpAny P .any ops Q fuel (A.setIfInBounds j true)) a w)
    (fin : ∀ A a, AInv E P n ops L pp pl s A a w → (∀ i, i < ops.size → A.getD i true = true) → Q .normal a w) :
    ∀ fuel A a, AInv E P n ops L pp pl s A a w → cnt ops A ≤ fuel → wpAny P .any ops Q fuel A a w := by
  have hall : ∀ A, A.size = ops.size → Region.ready .any ops A = [] → ∀ i, i < ops.size → A.getD i true = true := fun A hA he i hi => by
    cases hb : A.getD i true with
    | true => rfl
    | false => exact absurd he (ready_ne hst hA hi hb)
  intro fuel
  induction fuel with
  | zero =>
    intro A a h hc
    have hA : ∀ i, i < ops.size → A.getD i true = true := fun i hi => by
      cases hb : A.getD i true with
      | true => rfl
      | false =>
        have := cnt_set (fuel := 0) h.size hi hb (by omega)
        have h0 : cnt ops A = 0 := by omega
        unfold cnt at h0
        rw [List.countP_eq_zero] at h0
        have := h0 i (List.mem_range.2 hi)
        simp [hb] at this
    refine ⟨?_, fin A a h hA⟩
    cases hr : Region.ready .any ops A with
    | nil => rfl
    | cons i l =>
      obtain ⟨h1, h2, _⟩ := mem_ready (ops := ops) (A := A) (i := i) (by rw [hr]; exact List.mem_cons_self)
      rw [hA i h1] at h2
      cases h2
  | succ fuel ih =>
    intro A a h hc
    refine ⟨fun he => fin A a h (hall A h.size he), fun j hj => ?_⟩
    obtain ⟨hj1, hj2, o, ho, hdep⟩ := mem_ready hj
    have hc' := cnt_set h.size hj1 hj2 hc
    by_cases hL : j ∈ L
    · obtain ⟨p, hp, rfl⟩ := h.pend j hL hj1 hj2
      have hok := h.okp p hp
      have e1 := hok.op
      rw [ho] at e1
      have e2 : o = p.o := Option.some.inj e1
      subst e2
      obtain ⟨hev, hinv⟩ := h.exec hst hp hj1 hj2 hdep hL
      unfold wpOp
      rw [ho]
      show if _ then _ else _
      by_cases hw : Region.wanted p.o (yielded ops a.tmps) = true
      · rw [if_pos hw]
        refine .inl ?_
        unfold Oper.wp
        rw [hev.1 hw]
        show wpAny P .any ops Q fuel _ (a.put p.o.dst p.v) w
        rw [hok.dst]
        exact ih _ _ hinv hc'
      · rw [if_neg hw]
        have hv := hev.2 (by simpa using hw)
        rw [hok.dst, ← hv]
        exact ih _ _ hinv hc'
    · exact other j o fuel A a h hj1 hL ho hdep hc'
theorem x_region_draw {id : Nat} {l : List Oper} (hm : P.follows .mixedOrders = true) (h : XA E P n l.toArray [] [] [] s K) : X E P n (.region id l.toArray true) s K := fun w a hg hf => by
  refine wp_region_any hm (h _ _ _ _ ⟨hg.drew _, by simp, fun i hi e => ?_, fun i hi => (by cases hi), hf.size, hf.dfr, fun t v ht _ => hf.get t v ht, fun p hp => (by cases hp), fun p hp => (by cases hp), fun p hp => (by cases hp), fun i o ho e => ?_⟩ ?_)
  · rw [Array.getD_eq_getD_getElem?, Array.getElem?_replicate, if_pos hi] at e
    cases e
  · rw [Array.getD_eq_getD_getElem?, Array.getElem?_replicate, if_pos (Array.getElem?_eq_some_iff.1 ho).1] at e
    cases e
  · unfold cnt
    exact Nat.le_trans (List.countP_le_length) (by simp)
/-! the rules -/
def eonly (ls : List Nat) : Env → Env
  | [] => []
  | (k, v) :: r => match ls.elem k with
    | true => (k, v) :: eonly ls r
    | false => eonly ls r
def ehide (ls : List Nat) : Env → Env
  | [] => []
  | (k, v) :: r => match ls.elem k with
    | true => ehide ls r
    | false => (k, v) :: ehide ls r
theorem eonly_get {ls : List Nat} : ∀ {ρ : Env} {t : Nat} {v : Value}, eget (eonly ls ρ) t = some v → eget ρ t = some v ∧ t ∈ ls
  | [], t, v, h => by simp [eonly, eget] at h
  | (k, u) :: r, t, v, h => by
    simp only [eonly] at h
    split at h
    · rename_i hk
      rcases eget_put.1 h with ⟨rfl, rfl⟩ | ⟨h1, h2⟩
      · exact ⟨by simp [eget], by simpa using hk⟩
      · obtain ⟨h3, h4⟩ := eonly_get h2
        exact ⟨eget_put.2 (.inr ⟨h1, h3⟩), h4⟩
    · rename_i hk
      obtain ⟨h3, h4⟩ := eonly_get h
      refine ⟨eget_put.2 (.inr ⟨fun e => ?_, h3⟩), h4⟩
      subst e
      have : ls.elem k = true := by simpa using h4
      rw [this] at hk
      cases hk
theorem ehide_get {ls : List Nat} : ∀ {ρ : Env} {t : Nat} {v : Value}, eget (ehide ls ρ) t = some v → eget ρ t = some v ∧ t ∉ ls
  | [], t, v, h => by simp [ehide, eget] at h
  | (k, u) :: r, t, v, h => by
    simp only [ehide] at h
    split at h
    · rename_i hk
      obtain ⟨h3, h4⟩ := ehide_get h
      refine ⟨eget_put.2 (.inr ⟨fun e => ?_, h3⟩), h4⟩
      subst e
      exact h4 (by simpa using hk)
    · rename_i hk
      rcases eget_put.1 h with ⟨rfl, rfl⟩ | ⟨h1, h2⟩
      · refine ⟨by simp [eget], fun e => ?_⟩
        have : ls.elem k = true := by simpa using e
        rw [this] at hk
        cases hk
      · obtain ⟨h3, h4⟩ := ehide_get h2
        exact ⟨eget_put.2 (.inr ⟨h1, h3⟩), h4⟩
theorem pv_none {op : Op} {dst : Option Nat} {ty : TypeId} {pos : String} {after : Array Edge} {ρ : Env} {v : Value} (h : Rn P n ρ ⟨dst, op, ty, pos, after, none⟩ v) : PvP P n ops ⟨dst, op, ty, pos, after, none⟩ ρ v :=
  fun w a hf => ⟨fun _ => h w a hf, fun e => by simp [Region.wanted] at e⟩
theorem pvl_none {op : Op} {dst : Option Nat} {ty : TypeId} {pos : String} {after : Array Edge} {ρ : Env} {m : Mem} {μ : Own} {v : Value} (h : RnL E P n ρ m μ ⟨dst, op, ty, pos, after, none⟩ v) : PvL E P n ops ⟨dst, op, ty, pos, after, none⟩ ρ m μ v :=
  fun w a hg hf => ⟨fun _ => h w a hg hf, fun e => by simp [Region.wanted] at e⟩
theorem yields {ρ : Env} {g t : Nat} {b : Bool} (hj : (ops[g]?).bind (·.dst) = some t) (ht : eget ρ t = some (.bool b)) {a : Act} (hf : FitsE n ρ a) : yielded ops a.tmps g = some b := by
  unfold yielded
  rw [hj]
  simp only [Option.bind_some, hf.get t _ ht]
theorem pv_run {op : Op} {dst : Option Nat} {ty : TypeId} {pos : String} {after : Array Edge} {ρ : Env} {v : Value} {g t : Nat} {want b : Bool} (hj : (ops[g]?).bind (·.dst) = some t) (ht : eget ρ t = some (.bool b)) (hb : b = want)
    (h : Rn P n ρ ⟨dst, op, ty, pos, after, some (g, want)⟩ v) : PvP P n ops ⟨dst, op, ty, pos, after, some (g, want)⟩ ρ v :=
  fun w a hf => ⟨fun _ => h w a hf, fun e => by simp [Region.wanted, yields hj ht hf, hb] at e⟩
theorem pvl_run {op : Op} {dst : Option Nat} {ty : TypeId} {pos : String} {after : Array Edge} {ρ : Env} {m : Mem} {μ : Own} {v : Value} {g t : Nat} {want b : Bool} (hj : (ops[g]?).bind (·.dst) = some t) (ht : eget ρ t = some (.bool b)) (hb : b = want)
    (h : RnL E P n ρ m μ ⟨dst, op, ty, pos, after, some (g, want)⟩ v) : PvL E P n ops ⟨dst, op, ty, pos, after, some (g, want)⟩ ρ m μ v :=
  fun w a hg hf => ⟨fun _ => h w a hg hf, fun e => by simp [Region.wanted, yields hj ht hf, hb] at e⟩
theorem pv_skip {op : Op} {dst : Option Nat} {ty : TypeId} {pos : String} {after : Array Edge} {ρ : Env} {g t : Nat} {want b : Bool} (hj : (ops[g]?).bind (·.dst) = some t) (ht : eget ρ t = some (.bool b)) (hb : b ≠ want) :
    PvP P n ops ⟨dst, op, ty, pos, after, some (g, want)⟩ ρ undef :=
  fun w a hf => ⟨fun e => by simp [Region.wanted, yields hj ht hf, hb] at e, fun _ => rfl⟩
theorem pv_undef {op : Op} {dst : Option Nat} {ty : TypeId} {pos : String} {after : Array Edge} {ρ : Env} {g t : Nat} {want : Bool} (hj : (ops[g]?).bind (·.dst) = some t) (ht : eget ρ t = some undef) :
    PvP P n ops ⟨dst, op, ty, pos, after, some (g, want)⟩ ρ undef := fun w a hf => by
  have hy : yielded ops a.tmps g = none := by
    unfold yielded
    rw [hj]
    simp only [Option.bind_some, hf.get t _ ht]
    rfl
  exact ⟨fun e => by simp [Region.wanted, hy] at e, fun _ => rfl⟩
theorem okp_more (hst : statOk ops = true) {ρ : Env} {i d : Nat} {o : Oper} {v : Value} (ho : ops[i]? = some o) (hd : o.dst = some d) (hi : i ∉ L) {p : Pn} (h : PnOk ops n L ρ p) (hpi : p.i ∈ L) : PnOk ops n (i :: L) ((d, v) :: ρ) p := by
  have hne : p.i ≠ i := fun e => hi (e ▸ hpi)
  have hs := (stat_one hst h.op).2 i o d ho hd
  have hdd : d ≠ p.d := fun e => (hs.2 (Ne.symm hne)).2 (by rw [h.dst, e])
  refine ⟨h.op, h.dst, h.lt, eget_put.2 (.inr ⟨hdd, h.val⟩), fun t u ht => ?_, fun x hx => List.mem_cons_of_mem _ (h.dep x hx)⟩
  obtain ⟨h1, h2⟩ := h.env t u ht
  refine ⟨eget_put.2 (.inr ⟨fun e => ?_, h1⟩), h2⟩
  subst e
  exact hi (h.dep i ((hs.2 (Ne.symm hne)).1 h2))
/-- an operation that only looks is taken ahead -/
theorem xa_more (hst : statOk ops = true) {ρ : Env} {m : Mem} {μ : Own} {D : List Deferred} (i d : Nat) {o : Oper} {v : Value} {ls : List Nat} (ho : ops[i]? = some o) (hd : o.dst = some d) (hlt : Nat.blt d n = true) (hi : L.elem i = false) (hls : looks ops o = ls) (hdep : (deps o).all L.elem = true)
    {pp' pl' : List Pn} (hsub : ∀ p ∈ pp ++ pl, p ∈ pp' ++ pl') (hsup : ∀ p ∈ pp' ++ pl', p ∈ pp ++ pl ∨ p = ⟨i, d, v, o, eonly ls ρ⟩) (hnew : ⟨i, d, v, o, eonly ls ρ⟩ ∈ pp' ++ pl')
    (hp : ∀ w A a, AInv E P n ops L pp pl ⟨ρ, m, μ, D⟩ A a w → (∀ p ∈ pp', PvP P n ops p.o p.ρo p.v) ∧ (∀ p ∈ pl', PvL E P n ops p.o p.ρo m μ p.v)) (hpend : ∀ p ∈ pp ++ pl, p.i ∈ L)
    (k : XA E P n ops (i :: L) pp' pl' ⟨(d, v) :: ρ, m, μ, D⟩ K) : XA E P n ops L pp pl ⟨ρ, m, μ, D⟩ K := fun fuel A a w h hc => by
  have hiL : i ∉ L := by
    intro e
    have : L.elem i = true := by simpa using e
    rw [this] at hi
    cases hi
  have hisz : i < ops.size := (Array.getElem?_eq_some_iff.1 ho).1
  have hAi : A.getD i true = false := by
    cases e : A.getD i true with
    | false => rfl
    | true => exact absurd (h.sub i hisz e) hiL
  obtain ⟨h1, h2⟩ := hp w A a h
  refine k fuel A a w ⟨h.good, h.size, fun j hj e => List.mem_cons_of_mem _ (h.sub j hj e), fun j hj hlt' e => ?_, h.tsz, h.dfr, fun t u ht hne => ?_, fun p hp' => ?_, h1, h2, h.clo⟩ hc
  · rcases List.mem_cons.1 hj with rfl | hj
    · exact ⟨_, hnew, rfl⟩
    · obtain ⟨p, hp1, hp2⟩ := h.pend j hj hlt' e
      exact ⟨p, hsub p hp1, hp2⟩
  · rcases eget_put.1 ht with ⟨rfl, rfl⟩ | ⟨h3, h4⟩
    · exact absurd rfl (hne _ hnew hAi)
    · exact h.fit t u h4 fun p hp1 hp2 => hne p (hsub p hp1) hp2
  · rcases hsup p hp' with hp1 | rfl
    · exact okp_more hst ho hd hiL (h.okp p hp1) (hpend p hp1)
    · refine ⟨ho, hd, by simpa [Nat.blt_eq] using hlt, by simp [eget], fun t u ht => ?_, fun x hx => List.mem_cons_of_mem _ (by simpa using List.all_eq_true.1 hdep x hx)⟩
      obtain ⟨h3, h4⟩ := eonly_get ht
      have h5 : t ∈ looks ops o := by rw [hls]; exact h4
      refine ⟨eget_put.2 (.inr ⟨fun e => ?_, h3⟩), h5⟩
      subst e
      exact ((stat_one hst ho).2 i o d ho hd).1 rfl h5
theorem xa_p (hst : statOk ops = true) {ρ : Env} {m : Mem} {μ : Own} {D : List Deferred} (i d : Nat) {o : Oper} {v : Value} (ls : List Nat) (ho : ops[i]? = some o) (hd : o.dst = some d) (hlt : Nat.blt d n = true) (hi : L.elem i = false) (hls : looks ops o = ls) (hdep : (deps o).all L.elem = true)
    (hin : (pp ++ pl).all (fun p => L.elem p.i) = true) (hv : PvP P n ops o (eonly ls ρ) v)
    (k : XA E P n ops (i :: L) (⟨i, d, v, o, eonly ls ρ⟩ :: pp) pl ⟨(d, v) :: ρ, m, μ, D⟩ K) : XA E P n ops L pp pl ⟨ρ, m, μ, D⟩ K :=
  xa_more hst i d ho hd hlt hi hls hdep (fun p hp => List.mem_cons_of_mem _ hp) (fun p hp => (List.mem_cons.1 hp).symm) List.mem_cons_self
    (fun w A a h => ⟨fun p hp => by
      rcases List.mem_cons.1 hp with rfl | hp
      · exact hv
      · exact h.evp p hp, h.evl⟩) (fun p hp => by simpa using List.all_eq_true.1 hin p hp) k
theorem xa_l (hst : statOk ops = true) {ρ : Env} {m : Mem} {μ : Own} {D : List Deferred} (i d : Nat) {o : Oper} {v : Value} (ls : List Nat) (ho : ops[i]? = some o) (hd : o.dst = some d) (hlt : Nat.blt d n = true) (hi : L.elem i = false) (hls : looks ops o = ls) (hdep : (deps o).all L.elem = true)
    (hin : (pp ++ pl).all (fun p => L.elem p.i) = true) (hv : PvL E P n ops o (eonly ls ρ) m μ v)
    (k : XA E P n ops (i :: L) pp (⟨i, d, v, o, eonly ls ρ⟩ :: pl) ⟨(d, v) :: ρ, m, μ, D⟩ K) : XA E P n ops L pp pl ⟨ρ, m, μ, D⟩ K :=
  xa_more hst i d ho hd hlt hi hls hdep (fun p hp => by
      rcases List.mem_append.1 hp with hp | hp
      · exact List.mem_append_left _ hp
      · exact List.mem_append_right _ (List.mem_cons_of_mem _ hp)) (fun p hp => by
      rcases List.mem_append.1 hp with hp | hp
      · exact .inl (List.mem_append_left _ hp)
      · rcases List.mem_cons.1 hp with rfl | hp
        · exact .inr rfl
        · exact .inl (List.mem_append_right _ hp)) (List.mem_append_right _ List.mem_cons_self)
    (fun w A a h => ⟨h.evp, fun p hp => by
      rcases List.mem_cons.1 hp with rfl | hp
      · exact hv
      · exact h.evl p hp⟩) (fun p hp => by simpa using List.all_eq_true.1 hin p hp) k
theorem xa_end (hst : statOk ops = true) (hL : (List.range ops.size).all L.elem = true) (h : K .normal s) : XA E P n ops L pp pl s K := fun fuel A a w hi hc => by
  refine xa_sim (w := w) hst (fun j o fuel A a _ hj hjL => ?_) (fun A a hi hall => ?_) fuel A a hi hc
  · exact absurd (by simpa using List.all_eq_true.1 hL j (List.mem_range.2 hj)) hjL
  · refine ⟨s, hi.good, ⟨hi.tsz, fun t v ht => hi.fit t v ht fun p hp hf => ?_, hi.dfr⟩, h⟩
    have hlt : p.i < ops.size := (Array.getElem?_eq_some_iff.1 (hi.okp p hp).op).1
    rw [hall p.i hlt] at hf
    cases hf
/-- an operation writes no slot but its own -/
theorem upon_frame {o : Oper} {next next' : Act → World → Prop} {Q Q' : Exit → Act → World → Prop} {r : Result Next} (hn : ∀ a' w', next a' w' → (∀ t, o.dst ≠ some t → a'.tmps[t]? = a.tmps[t]?) → next' a' w')
    (hp : ∀ c a w, Q (.panic c) a w → Q' (.panic c) a w) (hl : LetsOut Q → LetsOut Q') (h : o.upon P a next Q r) : o.upon P a next' Q' r := by
  have hput : ∀ (b : Act) (v : Value), b.tmps = a.tmps → ∀ t, o.dst ≠ some t → (b.put o.dst v).tmps[t]? = a.tmps[t]? := fun b v hb t ht => by
    cases hd : o.dst with
    | none => simp [Act.put, hb]
    | some d =>
      rw [hd] at ht
      simp only [Act.put, hb, Array.getElem?_setIfInBounds]
      rw [if_neg (fun e => ht (by rw [e]))]
  unfold Oper.upon at h ⊢
  split at h
  · exact hn _ _ h (hput _ _ rfl)
  · exact hn _ _ h (hput _ _ rfl)
  · exact hn _ _ h (hput _ _ rfl)
  · refine Calls.mono h fun e w' he => ?_
    cases e with
    | returned v => exact hn _ _ he (hput _ _ rfl)
    | panicked c => exact hp _ _ _ he
    | outgrown => exact hl he
  · exact Rows.mono h fun v w' he => hn _ _ he (hput _ _ rfl)
  · exact hp _ _ _ h
  · exact h.elim
def putO (dst : Option Nat) (v : Value) (ρ : Env) : Env := match dst with
  | some d => (d, v) :: ρ
  | none => ρ
def Keff (E : Entry) (P : Program) (n : Nat) (ops : Array Oper) (e : Nat) (dst : Option Nat) (ρ0 : Env) (L : List Nat) (pp pl : List Pn) (pre : Env) (K : Exit → St → Prop) : Exit → St → Prop
  | .normal, s => (∃ v, s.ρ = putO dst v ρ0) ∧ (∀ p ∈ pl, PvL E P n ops p.o p.ρo s.m s.μ p.v) ∧ XA E P n ops (e :: L) pp pl ⟨pre ++ s.ρ, s.m, s.μ, s.D⟩ K
  | ex, s => K ex s
def preOf (l : List Pn) : Env := l.map fun p => (p.d, p.v)
/-- those that need not be carried out ahead of it -/
def stay (cl : List Nat) (l : List Pn) : List Pn := l.filter fun p => !(cl.elem p.i)
/-- those that are sure to have been carried out ahead of it -/
def clOk (ops : Array Oper) (o : Oper) : List Nat → List Nat → Bool
  | _, [] => true
  | acc, x :: r => ((deps o).elem x || acc.any (fun y => match ops[y]? with
      | some q => (deps q).elem x
      | none => false)) && clOk ops o (x :: acc) r
theorem clOk_done {o : Oper} (hc : ∀ i o, ops[i]? = some o → A.getD i true = true → ∀ x ∈ deps o, A.getD x true = true) (hd : ∀ x ∈ deps o, A.getD x false = true) : ∀ {cl acc : List Nat}, clOk ops o acc cl = true → (∀ y ∈ acc, A.getD y true = true) → ∀ x ∈ cl, A.getD x true = true
  | [], _, _, _, _, hx => by cases hx
  | y :: r, acc, h, ha, x, hx => by
    simp only [clOk, Bool.and_eq_true, Bool.or_eq_true] at h
    have hy : A.getD y true = true := by
      rcases h.1 with h1 | h1
      · exact getD_up (hd y (by simpa using h1))
      · obtain ⟨z, hz1, hz2⟩ := List.any_eq_true.1 h1
        cases hq : ops[z]? with
        | none => rw [hq] at hz2; cases hz2
        | some q =>
          rw [hq] at hz2
          exact hc z q hq (ha z hz1) y (by simpa using hz2)
    rcases List.mem_cons.1 hx with rfl | hx
    · exact hy
    · exact clOk_done hc hd h.2 (fun z hz => by
        rcases List.mem_cons.1 hz with rfl | hz
        · exact hy
        · exact ha z hz) x hx
theorem ehide_put {ls : List Nat} : ∀ {ρ : Env} {t : Nat} {v : Value}, eget ρ t = some v → t ∉ ls → eget (ehide ls ρ) t = some v
  | [], t, v, h, _ => by simp [eget] at h
  | (k, u) :: r, t, v, h, hn => by
    simp only [ehide]
    rcases eget_put.1 h with ⟨rfl, rfl⟩ | ⟨h1, h2⟩
    · have : ls.elem k = false := by simpa using hn
      rw [this]
      simp [eget]
    · split
      · exact ehide_put h2 hn
      · exact eget_put.2 (.inr ⟨h1, ehide_put h2 hn⟩)
theorem preOf_put {l : List Pn} {ρ : Env} {t : Nat} {v : Value} (h : (∃ p ∈ l, p.d = t) ∨ eget ρ t = some v) (hv : ∀ p ∈ l, p.d = t → p.v = v) : eget (preOf l ++ ρ) t = some v := by
  induction l with
  | nil =>
    rcases h with ⟨p, hp, _⟩ | h
    · cases hp
    · exact h
  | cons q l ih =>
    show eget ((q.d, q.v) :: (preOf l ++ ρ)) t = some v
    by_cases hq : q.d = t
    · exact eget_put.2 (.inl ⟨hq, hv q List.mem_cons_self hq⟩)
    · refine eget_put.2 (.inr ⟨hq, ih ?_ fun p hp => hv p (List.mem_cons_of_mem _ hp)⟩)
      rcases h with ⟨p, hp, hd⟩ | h
      · rcases List.mem_cons.1 hp with rfl | hp
        · exact absurd hd hq
        · exact .inl ⟨p, hp, hd⟩
      · exact .inr h
theorem preOf_get {l : List Pn} {ρ : Env} {t : Nat} {v : Value} (h : eget (preOf l ++ ρ) t = some v) : (∃ p ∈ l, p.d = t ∧ p.v = v) ∨ ((∀ p ∈ l, p.d ≠ t) ∧ eget ρ t = some v) := by
  induction l with
  | nil => exact .inr ⟨fun p hp => (by cases hp), h⟩
  | cons q l ih =>
    rcases eget_put.1 (show eget ((q.d, q.v) :: (preOf l ++ ρ)) t = some v from h) with ⟨h1, h2⟩ | ⟨h1, h2⟩
    · exact .inl ⟨q, List.mem_cons_self, h1, h2⟩
    · rcases ih h2 with ⟨p, hp, h3⟩ | ⟨h3, h4⟩
      · exact .inl ⟨p, List.mem_cons_of_mem _ hp, h3⟩
      · exact .inr ⟨fun p hp => by
          rcases List.mem_cons.1 hp with rfl | hp
          · exact h1
          · exact h3 p hp, h4⟩
theorem xa_one (hst : statOk ops = true) {ρ : Env} {m : Mem} {μ : Own} {D : List Deferred} {j : Nat} {o : Oper} (ho : ops[j]? = some o) (hj : j < ops.size) (hjL : j ∉ L) {cl : List Nat} (hcl : clOk ops o [] cl = true) (hin : (pp ++ pl).all (fun p => L.elem p.i) = true)
    (h : XO E P n ops [o] ⟨ehide ((stay cl pp ++ stay cl pl).map (·.d)) ρ, m, μ, D⟩ (Keff E P n ops j o.dst (ehide ((stay cl pp ++ stay cl pl).map (·.d)) ρ) L (stay cl pp) (stay cl pl) (preOf (stay cl pp ++ stay cl pl)) K))
    {fuel : Nat} (hi : AInv E P n ops L pp pl ⟨ρ, m, μ, D⟩ A a w) (hdep : ∀ x ∈ deps o, A.getD x false = true) (hc : cnt ops (A.setIfInBounds j true) ≤ fuel) :
    wpOp P ops (Lift E n K) j (wpAny P .any ops (Lift E n K) fuel (A.setIfInBounds j true)) a w := by
  have hpL : ∀ p ∈ pp ++ pl, p.i ∈ L := fun p hp => by simpa using List.all_eq_true.1 hin p hp
  -- what is pending and not sure to have been carried out
  have hdone : ∀ p ∈ pp ++ pl, p ∉ stay cl pp ++ stay cl pl → A.getD p.i true = true := fun p hp hn => by
    have hd : p.i ∈ cl := by
      refine Classical.byContradiction fun hnd => hn ?_
      have hk : (!(cl.elem p.i)) = true := by simp [hnd]
      rcases List.mem_append.1 hp with hp | hp
      · exact List.mem_append_left _ (List.mem_filter.2 ⟨hp, hk⟩)
      · exact List.mem_append_right _ (List.mem_filter.2 ⟨hp, hk⟩)
    exact clOk_done hi.clo hdep hcl (fun y hy => by cases hy) _ hd
  have hstay : ∀ p ∈ stay cl pp ++ stay cl pl, p ∈ pp ++ pl := fun p hp => by
    rcases List.mem_append.1 hp with hp | hp
    · exact List.mem_append_left _ (List.mem_filter.1 hp).1
    · exact List.mem_append_right _ (List.mem_filter.1 hp).1
  have hfit : Fits n ⟨ehide ((stay cl pp ++ stay cl pl).map (·.d)) ρ, m, μ, D⟩ a := ⟨hi.tsz, fun t v ht => by
    obtain ⟨h1, h2⟩ := ehide_get ht
    refine hi.fit t v h1 fun p hp hf hpd => ?_
    by_cases hs : p ∈ stay cl pp ++ stay cl pl
    · exact h2 (List.mem_map.2 ⟨p, hs, hpd⟩)
    · rw [hdone p hp hs] at hf
      exact absurd hf (by simp), hi.dfr⟩
  have hx := h w a hi.good hfit
  -- the step behind it
  have hnext : ∀ a' w', Lift E n (Keff E P n ops j o.dst (ehide ((stay cl pp ++ stay cl pl).map (·.d)) ρ) L (stay cl pp) (stay cl pl) (preOf (stay cl pp ++ stay cl pl)) K) .normal a' w' → (∀ t, o.dst ≠ some t → a'.tmps[t]? = a.tmps[t]?) →
      wpAny P .any ops (Lift E n K) fuel (A.setIfInBounds j true) a' w' := by
    rintro a' w' ⟨s', hg', hf', ⟨v0, hs0⟩, hk1, hk2⟩ hsame
    refine hk2 fuel _ a' w' ⟨hg', by simp [hi.size], fun i hilt e' => ?_, fun i hiL hilt e' => ?_, hf'.size, hf'.dfr, fun t v ht hne => ?_, fun p hp => ?_, fun p hp => hi.evp p (List.mem_filter.1 hp).1, hk1, clo_set hi.clo hi.size hj ho hdep⟩ hc
    · rw [getD_set hi.size hj] at e'
      by_cases hij : i = j
      · rw [hij]; exact List.mem_cons_self
      · rw [if_neg hij] at e'; exact List.mem_cons_of_mem _ (hi.sub i hilt e')
    · rw [getD_set hi.size hj] at e'
      by_cases hij : i = j
      · rw [if_pos hij] at e'; cases e'
      · rw [if_neg hij] at e'
        rcases List.mem_cons.1 hiL with h1 | h1
        · exact absurd h1 hij
        · obtain ⟨p, hp1, hp2⟩ := hi.pend i h1 hilt e'
          refine ⟨p, Classical.byContradiction fun hn => ?_, hp2⟩
          rw [← hp2, hdone p hp1 hn] at e'
          cases e'
    · rcases preOf_get ht with ⟨p, hp, hpd, hpv⟩ | ⟨h1, h2⟩
      · subst hpd
        subst hpv
        have hp0 := hstay p hp
        have hok := hi.okp p hp0
        have hlt : p.i < ops.size := (Array.getElem?_eq_some_iff.1 hok.op).1
        have hpj : p.i ≠ j := fun e' => hjL (e' ▸ hpL p hp0)
        have hex : A.getD p.i true = true := by
          cases hb : A.getD p.i true with
          | true => rfl
          | false =>
            have := hne p hp (by rw [getD_set hi.size hj, if_neg hpj]; exact hb)
            exact absurd rfl this
        have hdst : o.dst ≠ some p.d := ((stat_one hst ho).2 p.i p.o p.d hok.op hok.dst).2 hpj |>.2
        rw [hsame p.d hdst]
        refine hi.fit p.d p.v hok.val fun p' hp' hf' hdd => ?_
        have hok' := hi.okp p' hp'
        by_cases hpi : p'.i = p.i
        · rw [hpi, hex] at hf'; cases hf'
        · exact ((stat_one hst hok.op).2 p'.i p'.o p'.d hok'.op hok'.dst).2 hpi |>.2 (by rw [hok.dst, hdd])
      · exact hf'.get t v h2
    · have hp0 := hstay p hp
      have hok := hi.okp p hp0
      have hpj : j ≠ p.i := fun e' => hjL (e' ▸ hpL p hp0)
      have hsame2 : ∀ p' ∈ stay cl pp ++ stay cl pl, ∀ t u, p'.d = t → eget ρ t = some u → p'.v = u := fun p' hp' t u hd hu => by
        have h1 := (hi.okp p' (hstay p' hp')).val
        rw [hd] at h1
        exact Option.some.inj (h1.symm.trans hu)
      refine ⟨hok.op, hok.dst, hok.lt, preOf_put (.inl ⟨p, hp, rfl⟩) fun p' hp' hd => hsame2 p' hp' _ _ hd hok.val, fun t u ht => ?_, fun x hx => List.mem_cons_of_mem _ (hok.dep x hx)⟩
      obtain ⟨h1, h2⟩ := hok.env t u ht
      refine ⟨preOf_put ?_ fun p' hp' hd => hsame2 p' hp' _ _ hd h1, h2⟩
      by_cases hm : t ∈ (stay cl pp ++ stay cl pl).map (·.d)
      · obtain ⟨p', hp', hd⟩ := List.mem_map.1 hm
        exact .inl ⟨p', hp', hd⟩
      · refine .inr ?_
        show eget s'.ρ t = some u
        rw [hs0]
        have h3 := ehide_put h1 hm
        cases hdst : o.dst with
        | none => exact h3
        | some d =>
          refine eget_put.2 (.inr ⟨fun e' => ?_, h3⟩)
          subst e'
          exact hjL (hok.dep j (((stat_one hst hok.op).2 j o d ho hdst).2 hpj |>.1 h2))
  have hKp : ∀ c a w, Lift E n (Keff E P n ops j o.dst (ehide ((stay cl pp ++ stay cl pl).map (·.d)) ρ) L (stay cl pp) (stay cl pl) (preOf (stay cl pp ++ stay cl pl)) K) (.panic c) a w → Lift E n K (.panic c) a w := fun c a w h => h
  have hKl : LetsOut (Lift E n (Keff E P n ops j o.dst (ehide ((stay cl pp ++ stay cl pl).map (·.d)) ρ) L (stay cl pp) (stay cl pl) (preOf (stay cl pp ++ stay cl pl)) K)) → LetsOut (Lift E n K) := fun ⟨a, w, h⟩ => ⟨a, w, h⟩
  unfold wpList at hx
  unfold wpOp
  rw [ho]
  show if _ then _ else _
  by_cases hw : Region.wanted o (yielded ops a.tmps) = true
  · rw [if_pos hw] at hx ⊢
    rcases hx with hx | hx
    · exact .inl (upon_frame (fun a' w' h1 h2 => hnext a' w' h1 h2) hKp hKl hx)
    · exact .inr ⟨hx.1, hKl hx.2⟩
  · rw [if_neg hw] at hx ⊢
    refine hnext _ _ hx fun t ht => ?_
    cases hd : o.dst with
    | none => simp [Act.put]
    | some d =>
      rw [hd] at ht
      simp only [Act.put, Array.getElem?_setIfInBounds]
      rw [if_neg (fun e' => ht (by rw [e']))]
def onlyIn (ops : Array Oper) (L : List Nat) (es : List Nat) : Bool :=
  (List.range ops.size).all fun j => L.elem j || es.elem j || match ops[j]? with
    | some o => !((deps o).all L.elem)
    | none => true
theorem xa_many (hst : statOk ops = true) {ρ : Env} {m : Mem} {μ : Own} {D : List Deferred} (es : List Nat) (hne : ∃ e ∈ es, e < ops.size ∧ e ∉ L) (honly : onlyIn ops L es = true)
    (h : ∀ e ∈ es, ∀ o fuel A a w, AInv E P n ops L pp pl ⟨ρ, m, μ, D⟩ A a w → e < ops.size → e ∉ L → ops[e]? = some o → (∀ x ∈ deps o, A.getD x false = true) → cnt ops (A.setIfInBounds e true) ≤ fuel → wpOp P ops (Lift E n K) e (wpAny P .any ops (Lift E n K) fuel (A.setIfInBounds e true)) a w) :
    XA E P n ops L pp pl ⟨ρ, m, μ, D⟩ K := fun fuel A a w hi hc => by
  refine xa_sim (w := w) hst (fun j o' fuel A a hi hj hjL ho' hdep hc => ?_) (fun A a hi hall => ?_) fuel A a hi hc
  · have hje : j ∈ es := by
      have h1 := List.all_eq_true.1 honly j (List.mem_range.2 hj)
      simp only [Bool.or_eq_true, List.elem_eq_mem, decide_eq_true_eq] at h1
      rcases h1 with (h1 | h1) | h1
      · exact absurd h1 hjL
      · exact h1
      · simp only [ho', Bool.not_eq_true'] at h1
        have : (deps o').all L.elem = true := List.all_eq_true.2 fun x hx => by
          have hxlt : x < ops.size := Nat.lt_trans ((stat_one hst ho').1 x hx) hj
          simpa using hi.sub x hxlt (getD_true_of hi.size hxlt (hdep x hx))
        simp only [List.elem_eq_mem] at this
        rw [this] at h1
        cases h1
    exact h j hje o' fuel A a w hi hj hjL ho' hdep hc
  · obtain ⟨e, _, hesz, heL⟩ := hne
    exact absurd (hi.sub e hesz (hall e hesz)) heL
theorem notin_of {L : List Nat} {e : Nat} (h : L.elem e = false) : e ∉ L := fun h' => by
  have : L.elem e = true := by simpa using h'
  rw [this] at h
  cases h
theorem xa_effect (hst : statOk ops = true) {ρ : Env} {m : Mem} {μ : Own} {D : List Deferred} (e : Nat) {o : Oper} (ho : ops[e]? = some o) (hnot : L.elem e = false) (honly : onlyIn ops L [e] = true) (cl : List Nat) (hcl : clOk ops o [] cl = true) (hin : (pp ++ pl).all (fun p => L.elem p.i) = true)
    {pp' pl' : List Pn} (hpp : stay cl pp = pp') (hpl : stay cl pl = pl') {hid : List Nat} (hhid : (pp' ++ pl').map (·.d) = hid)
    (h : XO E P n ops [o] ⟨ehide hid ρ, m, μ, D⟩ (Keff E P n ops e o.dst (ehide hid ρ) L pp' pl' (preOf (pp' ++ pl')) K)) : XA E P n ops L pp pl ⟨ρ, m, μ, D⟩ K := by
  subst hpp
  subst hpl
  subst hhid
  refine xa_many hst [e] ⟨e, List.mem_cons_self, (Array.getElem?_eq_some_iff.1 ho).1, notin_of hnot⟩ honly fun j hj o' fuel A a w hi hjs hjL ho' hdep hc => ?_
  obtain rfl : j = e := by simpa using hj
  rw [ho] at ho'
  cases Option.some.inj ho'
  exact xa_one hst ho hjs hjL hcl hin h hi hdep hc
/-- two that act, in whichever order -/
theorem xa_effect2 (hst : statOk ops = true) {ρ : Env} {m : Mem} {μ : Own} {D : List Deferred} (e f : Nat) {o q : Oper} (ho : ops[e]? = some o) (hq : ops[f]? = some q) (hnot : L.elem e = false) (honly : onlyIn ops L [e, f] = true) (cl cq : List Nat) (hcl : clOk ops o [] cl = true) (hcq : clOk ops q [] cq = true) (hin : (pp ++ pl).all (fun p => L.elem p.i) = true)
    {pp' pl' : List Pn} (hpp : stay cl pp = pp') (hpl : stay cl pl = pl') {hid : List Nat} (hhid : (pp' ++ pl').map (·.d) = hid)
    {qp' ql' : List Pn} (hqp : stay cq pp = qp') (hql : stay cq pl = ql') {hiq : List Nat} (hhiq : (qp' ++ ql').map (·.d) = hiq)
    (h : XO E P n ops [o] ⟨ehide hid ρ, m, μ, D⟩ (Keff E P n ops e o.dst (ehide hid ρ) L pp' pl' (preOf (pp' ++ pl')) K))
    (k : XO E P n ops [q] ⟨ehide hiq ρ, m, μ, D⟩ (Keff E P n ops f q.dst (ehide hiq ρ) L qp' ql' (preOf (qp' ++ ql')) K)) : XA E P n ops L pp pl ⟨ρ, m, μ, D⟩ K := by
  subst hpp
  subst hpl
  subst hhid
  subst hqp
  subst hql
  subst hhiq
  refine xa_many hst [e, f] ⟨e, List.mem_cons_self, (Array.getElem?_eq_some_iff.1 ho).1, notin_of hnot⟩ honly fun j hj o' fuel A a w hi hjs hjL ho' hdep hc => ?_
  rcases List.mem_cons.1 hj with rfl | hj
  · rw [ho] at ho'
    cases Option.some.inj ho'
    exact xa_one hst ho hjs hjL hcl hin h hi hdep hc
  · obtain rfl : j = f := by simpa using hj
    rw [hq] at ho'
    cases Option.some.inj ho'
    exact xa_one hst hq hjs hjL hcq hin k hi hdep hc
/-- the environment, written out -/
theorem xa_env {ρ ρ' : Env} {m : Mem} {μ : Own} {D : List Deferred} (h : ρ = ρ') (k : XA E P n ops L pp pl ⟨ρ', m, μ, D⟩ K) : XA E P n ops L pp pl ⟨ρ, m, μ, D⟩ K := h ▸ k
theorem x_env {c : Code} {ρ ρ' : Env} {m : Mem} {μ : Own} {D : List Deferred} (h : esub ρ ρ') (k : X E P n c ⟨ρ', m, μ, D⟩ K) : X E P n c ⟨ρ, m, μ, D⟩ K := fun w a hg hf => k w a hg (hf.weak h)
theorem xa_split {t : Nat} {b : Bool} (_ : eget s.ρ t = some (.bool b)) (h1 : b = true → XA E P n ops L pp pl s K) (h2 : b = false → XA E P n ops L pp pl s K) : XA E P n ops L pp pl s K := by
  cases b
  · exact h2 rfl
  · exact h1 rfl
end
end Go.Gw

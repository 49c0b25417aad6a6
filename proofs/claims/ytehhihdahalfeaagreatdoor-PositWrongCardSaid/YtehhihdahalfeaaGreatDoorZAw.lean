/-
  Code of the plain machine: the model does the same. Plain lemmas, no statement of the seat.
-/
import Derived.Test.YtehhihdahalfeaaGreatDoorZAv
import Derived.TacticsIn
import Derived.OrdersIn
import Derived.RangeFuncIn
import Derived.RangeFuncRecord
set_option linter.unusedVariables false
set_option linter.unusedSimpArgs false
set_option linter.unnecessarySimpa false
namespace Go.Am
open Go Go.Hb
open Go.Gw (tk tf tz tsl tar tpl isAggD)
theorem aget_adel {d t : Nat} (h : d ≠ t) : ∀ {ρ : AEnv}, aget (adel d ρ) t = aget ρ t
  | [] => rfl
  | (k, v) :: r => by
    simp only [adel]
    cases hk : Nat.beq k d with
    | true =>
      obtain rfl := Nat.eq_of_beq_eq_true hk
      have : Nat.beq k t = false := Bool.eq_false_iff.2 (fun e => h (Nat.eq_of_beq_eq_true e))
      simp [aget, this]
    | false => simp only [aget]; rw [aget_adel h]
theorem aget_put {d t : Nat} {v x : PV} {ρ : AEnv} (h : aget (aput (some d) v ρ) t = some x) : (d = t ∧ v = x) ∨ (d ≠ t ∧ aget ρ t = some x) := by
  simp only [aput, aget] at h
  cases hk : Nat.beq d t with
  | true => rw [hk] at h; exact .inl ⟨Nat.eq_of_beq_eq_true hk, Option.some.inj h⟩
  | false =>
    have hne : d ≠ t := fun e => by subst e; simp at hk
    rw [hk] at h
    simp only at h
    rw [aget_adel hne] at h
    exact .inr ⟨hne, h⟩
def slotsP (P : Program) : Bool := P.funcs.toList.all fun fn => match fn.body with
  | some c => slots fn.ntmps c
  | none => true
section
variable {P : Program} {E : Entry} {m : Mem} {φ : Ph} {μ : Own} {st : Sto} {ρ : AEnv} {a : Act} {w : World} {C : Cfg} {e : Ev} {n : Nat}
theorem EnvR.put {d : Option Nat} {x : PV} {v : Value} (h : EnvR m φ ρ a) (hn : a.tmps.size = n) (hd : dstOk n d = true) (hx : R m φ x v) : EnvR m φ (aput d x ρ) (a.put d v) := by
  cases d with
  | none => exact h
  | some d =>
    intro t y ht
    have hd' : d < a.tmps.size := by rw [hn]; simpa [dstOk, Nat.blt_eq] using hd
    rcases aget_put ht with ⟨rfl, rfl⟩ | ⟨h1, h2⟩
    · exact ⟨v, by simp [Act.put, Array.getElem?_setIfInBounds, hd'], hx⟩
    · obtain ⟨u, h3, h4⟩ := h t y h2
      exact ⟨u, by simp [Act.put, Array.getElem?_setIfInBounds, h1, h3], h4⟩
theorem put_size {d : Option Nat} {v : Value} : (a.put d v).tmps.size = a.tmps.size := by cases d <;> simp [Act.put]
theorem put_defers {d : Option Nat} {v : Value} : (a.put d v).defers = a.defers := by cases d <;> rfl
theorem retV_R {rs : List PV} {us : List Value} (h : Rl m φ rs us) : R m φ (retV rs) (Gw.tup us) := by
  match rs, us, h with
  | [], [], h => exact .tu h.1 h.2
  | [x], [u], h => exact h.2 0 x u rfl rfl
  | x :: y :: r, u :: v :: s, h => exact .tu h.1 h.2
  | [], _ :: _, h => exact absurd h.1 (by simp)
  | [_], [], h => exact absurd h.1 (by simp)
  | [_], _ :: _ :: _, h => exact absurd h.1 (by simp)
  | _ :: _ :: _, [], h => exact absurd h.1 (by simp)
  | _ :: _ :: _, [_], h => exact absurd h.1 (by simp)
/-- one operation -/
theorem oper_ok {o : Oper} {r : AR} {next : Act → World → Prop} {Q : Exit → Act → World → Prop} (he : CallOk C.P e.call) (hs : Sit E m φ μ st w) (h : EnvR m φ ρ a) (hx : aoper C e ρ st o.op = some r)
    (hn : ∀ x st' v w' m' φ' μ', r = .val x st' → Mem.le m m' → Ext st st' φ φ' → Sit E m' φ' μ' st' w' → R m' φ' x v → next (a.put o.dst v) w')
    (hu : ∀ st' w' m' φ' μ', r = .unit st' → Mem.le m m' → Ext st st' φ φ' → Sit E m' φ' μ' st' w' → next (a.put o.dst undef) w')
    (hp : ∀ x st' v w' m' φ' μ', r = .pan x st' → Mem.le m m' → Ext st st' φ φ' → Sit E m' φ' μ' st' w' → R m' φ' x v → Q (.panic [⟨v, false, false⟩]) a w') : o.wp C.P a w next Q := by
  obtain ⟨dst, op, ty, pos, after, gd⟩ := o
  simp only at hx hn hu hp
  have does : ∀ {x : PV}, r = .val x st → Does C.P w a m φ ⟨dst, op, ty, pos, after, gd⟩ x → Oper.wp C.P ⟨dst, op, ty, pos, after, gd⟩ a w next Q := fun {x} hr hd => by
    obtain ⟨v, h1, h2⟩ := hd
    unfold Oper.wp
    rw [h1]
    exact hn x st v w m φ μ hr (Mem.le.refl m) (Ext.refl _ _) hs h2
  have acts : Acts C.P E m φ st w a ⟨dst, op, ty, pos, after, gd⟩ r → Oper.wp C.P ⟨dst, op, ty, pos, after, gd⟩ a w next Q := fun ha => by
    unfold Oper.wp
    cases r with
    | val x st' => obtain ⟨v, w', m', φ', μ', h1, h2, h3, h4, h5⟩ := ha; rw [h1]; exact hn x st' v w' m' φ' μ' rfl h2 h3 h4 h5
    | unit st' => obtain ⟨w', m', φ', μ', h1, h2, h3, h4⟩ := ha; rw [h1]; exact hu st' w' m' φ' μ' rfl h2 h3 h4
    | pan x st' => obtain ⟨v, w', m', φ', μ', h1, h2, h3, h4, h5⟩ := ha; rw [h1]; exact hp x st' v w' m' φ' μ' rfl h2 h3 h4 h5
  have hS : aS C e ρ st op = some r → Oper.wp C.P ⟨dst, op, ty, pos, after, gd⟩ a w next Q := fun hx => by
    unfold aS at hx
    split at hx
    · exact acts (acts_box hs h hx)
    · exact acts (acts_alloc hs hx)
    · exact acts (acts_store hs h hx)
    · exact acts (acts_buildSlice hs h hx)
    · exact acts (acts_slice rfl hs h hx)
    · exact acts (acts_panic hs h hx)
    · exact acts (acts_append hs h hx)
    · rename_i g xs ts _
      unfold sCall at hx
      split at hx
      · rename_i f as bs vs hg hvs
        split at hx
        · rename_i hcall
          have rg := aval_R h hg
          have rv := avals_R h hvs
          generalize heg : a.eval g = eg at rg
          cases rg with
          | @fn _ _ _ _ us ws hl hl' hi hi' =>
            have hargs : Rl m φ (as ++ vs ++ bs) (us ++ xs.toList.map a.eval ++ ws) := (Rl.append ⟨hl, hi⟩ rv).append ⟨hl', hi'⟩
            have hrun : (execOp a.eval ⟨dst, .call ⟨.value g, xs, ts⟩, ty, pos, after, gd⟩).run C.P w = .ok (.enter f (us ++ xs.toList.map a.eval ++ ws).toArray) w := by
              unfold Gw.callable at hcall
              split at hcall
              · rename_i fn hfn
                rw [Bool.and_eq_true] at hcall
                cases hb : fn.body with
                | none => simp [hb] at hcall
                | some body =>
                  have hne : ¬ fn.name = "runtime.NumGoroutine" := by simpa using hcall.2
                  have ex : xs.map a.eval = (xs.toList.map a.eval).toArray := by apply Array.ext'; simp
                  simp [execOp, resolve, Deferred.ofValue, heg, invoke, callFunc, hfn, hne, hb, ex]
              · cases hcall
            have run : ∀ {r' : AEnd} {st' : Sto}, acallS C e f (as ++ vs ++ bs) st = some (r', st') → (∀ rs, r' = .ret rs → r = .val (retV rs) st') → (∀ x, r' = .pan x → r = .pan x st') → Oper.wp C.P ⟨dst, .call ⟨.value g, xs, ts⟩, ty, pos, after, gd⟩ a w next Q := fun {r' st'} hc h1 h2 => by
              have hok := acallS_ok he hs hargs hc
              unfold Oper.wp
              rw [hrun]
              refine hok.mono fun en w' ⟨m', φ', μ', q1, q2, q3, q4⟩ => ?_
              cases r' with
              | ret rs =>
                obtain ⟨us', rfl, q5⟩ := q4
                exact hn _ _ _ w' m' φ' μ' (h1 rs rfl) q1 q2 q3 (retV_R q5)
              | pan x =>
                obtain ⟨u, rfl, q5⟩ := q4
                exact hp _ _ _ w' m' φ' μ' (h2 x rfl) q1 q2 q3 q5
            split at hx
            · rename_i rs st' hc
              cases hx
              exact run hc (fun rs' e' => by cases e'; rfl) (fun x e' => by cases e')
            · rename_i x st' hc
              cases hx
              exact run hc (fun rs' e' => by cases e') (fun x e' => by cases e'; rfl)
            · cases hx
        · cases hx
      · cases hx
    · cases hx
  unfold aoper at hx
  split at hx
  · exact hS hx
  · split at hx
    · rename_i v hv
      cases hx
      exact does rfl (does_P (Am.Good.memW hs.good) h hv)
    · split at hx
      · rename_i v hv
        cases hx
        exact does rfl (does_K hs h hv)
      · exact hS hx
/-! exits -/
def XR (m : Mem) (φ : Ph) : AX → Exit → Prop
  | .normal, ex => ex = .normal
  | .exit i, ex => ex = .exit i
  | .ret, ex => ex = .ret
  | .pan x, ex => ∃ v, ex = .panic [⟨v, false, false⟩] ∧ R m φ x v
/-- what is known behind code -/
def Post (D : List Deferred) (E : Entry) (n : Nat) (m : Mem) (φ : Ph) (st : Sto) (x : AX) (s' : AS) (ex : Exit) (a' : Act) (w' : World) : Prop :=
  ∃ m' φ' μ', Mem.le m m' ∧ Ext st s'.st φ φ' ∧ Sit E m' φ' μ' s'.st w' ∧ EnvR m' φ' s'.env a' ∧ a'.tmps.size = n ∧ a'.defers = D ∧ XR m' φ' x ex
theorem Post.trans {D : List Deferred} {st1 : Sto} {m1 : Mem} {φ1 : Ph} {x : AX} {s' : AS} {ex : Exit} {a' : Act} {w' : World} (hm : Mem.le m m1) (hx : Ext st st1 φ φ1) (h : Post D E n m1 φ1 st1 x s' ex a' w') : Post D E n m φ st x s' ex a' w' := by
  obtain ⟨m', φ', μ', h1, h2, h3⟩ := h
  exact ⟨m', φ', μ', hm.trans h1, hx.trans h2, h3⟩
theorem undef_R : R m φ (.tu []) undef := by
  have : Rl m φ [] [] := .nil
  exact .tu this.1 this.2
theorem guard_ok {ops : Array Oper} {o : Oper} {b : Bool} (h : EnvR m φ ρ a) (hx : guardP ops ρ o.guard = some b) : Region.wanted o (yielded ops a.tmps) = b := by
  unfold guardP at hx
  unfold Region.wanted
  split at hx
  · rename_i hg; rw [hg]; simpa using hx
  · rename_i j want hg
    rw [hg]
    simp only
    split at hx
    · rename_i t ht
      split at hx
      · rename_i v hv
        cases hx
        obtain ⟨u, h1, h2⟩ := h t _ hv
        have hu := h2.sc_eq
        subst hu
        have : yielded ops a.tmps j = some v := by
          unfold yielded
          rw [ht]
          simp [h1]
        rw [this]
        cases v <;> cases want <;> rfl
      · rename_i hv
        cases hx
        obtain ⟨u, h1, h2⟩ := h t _ hv
        cases h2 with
        | @tu _ _ vs hl hi =>
          have : vs = [] := List.eq_nil_of_length_eq_zero (by simpa using hl.symm)
          subst this
          have : yielded ops a.tmps j = none := by
            unfold yielded
            rw [ht]
            simp [h1]
          rw [this]
          rfl
      · cases hx
    · cases hx
/-! the wide fence, in a round or not -/
def FF (ro : Option Nat) : Fence := { Fence.wide with round := ro }
theorem calls_FF {ro : Option Nat} {k : Nat} {f : FuncId} {args : Array Value} {R : Ending → World → Prop} (h : Calls P f args w R) : CallsIn (FF ro) k P f args w R := callsIn_wide.2 h
theorem rows_FF {ro : Option Nat} {k : Nat} {row : String} {args : Array Value} {R : Value → World → Prop} (h : Rows P row args w R) : RowsIn (FF ro) k P row args w R :=
  fun c cs _ => let ⟨v, w', r, s⟩ := h c cs; ⟨v, w', r, (stepsIn_wide (P := P)).2 s⟩
theorem oper_FF {ro : Option Nat} {k : Nat} {o : Oper} {next : Act → World → Prop} {Q : Exit → Act → World → Prop} (hd : noDefer o.op = true) (h : o.wp P a w next Q) : o.wpIn (FF ro) k P a w next Q := by
  refine ⟨fun _ _ => trivial, ?_⟩
  rw [Oper.semAt_eq _ _ _ (fun c e => by rw [e] at hd; cases hd)]
  unfold Oper.wp at h
  generalize (execOp a.eval o).run P w = r at h ⊢
  cases r with
  | ok nx w' =>
    cases nx with
    | enter f args => exact ⟨fun e => (by cases e), calls_FF h⟩
    | row r args => exact ⟨fun e => (by cases e), rows_FF h⟩
    | round l f t as bd => exact h.elim
    | value v => exact h
    | skip => exact h
    | defer d => exact h
    | _ => exact h.elim
  | halt hl w' =>
    cases hl with
    | panic v => exact h
    | _ => exact h.elim
/-- what a round is asked for -/
def YieldD (P : Program) (vs : List Value) (w : World) (R : Ending → World → Prop) : Prop :=
  ∃ l us fn tmps as bd, vs = .func (.yield l) #[] #[] :: us ∧ (Instr.yield l us.toArray).run P w = .ok (.round l fn tmps as bd) w ∧ ∀ k, RoundIn Fence.wide k P l fn tmps as bd w R
theorem YieldD.mono (P : Program) : ∀ vs w R R', YieldD P vs w R → (∀ e w', R e w' → R' e w') → YieldD P vs w R' :=
  fun _ _ _ _ ⟨l, us, fn, tmps, as, bd, h1, h2, h3⟩ hr => ⟨l, us, fn, tmps, as, bd, h1, h2, fun k => (h3 k).mono hr⟩
theorem operY_ok {ro : Option Nat} {k : Nat} {o : Oper} {r : AR} {next : Act → World → Prop} {Q : Exit → Act → World → Prop} (he : CallOk C.P e.call) (hy : DoesOk (YieldD C.P) e.yield) (hs : Sit E m φ μ st w) (h : EnvR m φ ρ a) (hd : noDefer o.op = true) (hx : aoperY C e ρ st o.op = some r)
    (hn : ∀ x st' v w' m' φ' μ', r = .val x st' → Mem.le m m' → Ext st st' φ φ' → Sit E m' φ' μ' st' w' → R m' φ' x v → next (a.put o.dst v) w')
    (hu : ∀ st' w' m' φ' μ', r = .unit st' → Mem.le m m' → Ext st st' φ φ' → Sit E m' φ' μ' st' w' → next (a.put o.dst undef) w')
    (hp : ∀ x st' v w' m' φ' μ', r = .pan x st' → Mem.le m m' → Ext st st' φ φ' → Sit E m' φ' μ' st' w' → R m' φ' x v → Q (.panic [⟨v, false, false⟩]) a w') : o.wpIn (FF ro) k C.P a w next Q := by
  unfold aoperY at hx
  split at hx
  · rename_i g xs ts hop
    split at hx
    · rename_i id hg
      split at hx
      · rename_i vs hvs
        unfold sYield at hx
        split at hx
        · rename_i vs1 st1 hpub
          split at hx
          · rename_i rs st2 hc
            cases hx
            have rg := aval_R h hg
            obtain ⟨m1, μ1, e1, e2, e3, e4⟩ := pubL_ok hpub hs (avals_R h hvs)
            have hargs : Rl m1 φ (.yl id :: vs1) (a.eval g :: xs.toList.map a.eval) := .cons (rg.mono e1 (Le.refl φ)) e4
            have hok := acallM_ok (YieldD.mono C.P) hy ((List.reverse_perm _).nodup_iff.2 (close_nodup List.nodup_nil)) e3 hargs hc
            obtain ⟨l, us, fn, tmps, as, bd, h1, h2, h3⟩ := hok
            simp only [List.cons.injEq] at h1
            obtain ⟨hl, rfl⟩ := h1
            have ex : xs.map a.eval = (xs.toList.map a.eval).toArray := by apply Array.ext'; simp
            have hrun : (execOp a.eval o).run C.P w = .ok (.round l fn tmps as bd) w := by
              have : (execOp a.eval o).run C.P w = (Instr.yield l (xs.toList.map a.eval).toArray).run C.P w := by
                unfold execOp
                rw [hop]
                simp [resolve, Deferred.ofValue, hl, invoke, ex]
              rw [this]
              exact h2
            refine ⟨fun _ _ => trivial, ?_⟩
            rw [Oper.semAt_eq _ _ _ (fun c e => by rw [e] at hd; cases hd), hrun]
            refine ⟨fun e => (by cases e), ?_⟩
            refine RoundIn.mono (F := Fence.wide) (h3 _) fun en w' ⟨m', φ', μ', q1, q2, q3, q4⟩ => ?_
            obtain ⟨us', rfl, q5⟩ := q4
            exact hn _ _ _ w' m' φ' μ' rfl (e1.trans q1) (e2.trans q2) q3 (retV_R q5)
          · cases hx
        · cases hx
      · cases hx
    · exact oper_FF hd (oper_ok he hs h (by first | exact hx | (rw [hop]; exact hx)) hn hu hp)
  · exact oper_FF hd (oper_ok he hs h hx hn hu hp)
theorem aops_ok {D : List Deferred} {ro : Option Nat} {k : Nat} (he : CallOk C.P e.call) (hy : DoesOk (YieldD C.P) e.yield) {ops : Array Oper} {m0 : Mem} {φ0 : Ph} {st0 : Sto} : ∀ {l : List Oper} {s s' : AS} {x : AX} {m : Mem} {φ : Ph} {μ : Own} {a : Act} {w : World}, aops C e ops l s = some (x, s') → l.all (fun o => dstOk n o.dst && noDefer o.op) = true → Mem.le m0 m → Ext st0 s.st φ0 φ → Sit E m φ μ s.st w → EnvR m φ s.env a → a.tmps.size = n → a.defers = D →
    wpListIn (FF ro) k C.P ops (Post D E n m0 φ0 st0 x s') l a w
  | [], s, s', x, m, φ, μ, a, w, hx, _, hm, hxt, hs, h, hn, hD => by
    simp only [aops, Option.some.injEq, Prod.mk.injEq] at hx
    obtain ⟨rfl, rfl⟩ := hx
    exact ⟨m, φ, μ, hm, hxt, hs, h, hn, hD, rfl⟩
  | o :: l, s, s', x, m, φ, μ, a, w, hx, hd, hm, hxt, hs, h, hn, hD => by
    simp only [List.all_cons, Bool.and_eq_true] at hd
    obtain ⟨⟨hd1, hd3⟩, hd2⟩ := hd
    have hd2 : l.all (fun o => dstOk n o.dst && noDefer o.op) = true := hd2
    simp only [aops] at hx
    unfold wpListIn
    split at hx
    · rename_i hg
      rw [if_pos (guard_ok h hg)]
      cases ho : aoperY C e s.env s.st o.op with
      | none => simp [ho] at hx
      | some r =>
        rw [ho] at hx
        refine operY_ok he hy hs h hd3 ho (fun x1 st1 v w' m' φ' μ' hr q1 q2 q3 q4 => ?_) (fun st1 w' m' φ' μ' hr q1 q2 q3 => ?_) (fun x1 st1 v w' m' φ' μ' hr q1 q2 q3 q4 => ?_)
        · subst hr
          exact aops_ok he hy hx hd2 (hm.trans q1) (hxt.trans q2) q3 ((h.mono q1 q2.le).put hn hd1 q4) (by rw [put_size]; exact hn) (by rw [put_defers]; exact hD)
        · subst hr
          exact aops_ok he hy hx hd2 (hm.trans q1) (hxt.trans q2) q3 ((h.mono q1 q2.le).put hn hd1 undef_R) (by rw [put_size]; exact hn) (by rw [put_defers]; exact hD)
        · subst hr
          simp only [Option.some.injEq, Prod.mk.injEq] at hx
          obtain ⟨rfl, rfl⟩ := hx
          exact ⟨m', φ', μ', hm.trans q1, hxt.trans q2, q3, h.mono q1 q2.le, hn, hD, v, rfl, q4⟩
    · rename_i hg
      rw [if_neg (by rw [guard_ok h hg]; simp)]
      exact ⟨fun _ _ => trivial, aops_ok (s := ⟨aput o.dst (.tu []) s.env, s.st⟩) he hy hx hd2 hm hxt hs (h.put hn hd1 undef_R) (by rw [put_size]; exact hn) (by rw [put_defers]; exact hD)⟩
    · cases hx
theorem opAny_FF {ro : Option Nat} {k : Nat} {ops : Array Oper} {Q : Exit → Act → World → Prop} {K K' : Act → World → Prop} (hnd : ∀ (i : Nat) o, ops[i]? = some o → noDefer o.op = true) (hQ : ¬ LetsOut Q) {i : Nat} (hK : ∀ a w, K a w → K' a w) (h : wpOp P ops Q i K a w) : wpOpIn (FF ro) k P ops Q i K' a w := by
  refine wpOpIn_mono hK ?_
  unfold wpOp at h
  unfold wpOpIn
  cases ho : ops[i]? with
  | none => rw [ho] at h; exact h
  | some o =>
    rw [ho] at h
    simp only at h ⊢
    by_cases hw : Region.wanted o (yielded ops a.tmps) = true
    · rw [if_pos hw] at h ⊢
      rcases h with h | ⟨_, h⟩
      · exact oper_FF (hnd i o ho) h
      · exact absurd h hQ
    · rw [if_neg hw] at h ⊢
      exact ⟨fun _ _ => trivial, h⟩
theorem any_FF {ro : Option Nat} {k : Nat} {md : Region.Mode} {ops : Array Oper} {Q : Exit → Act → World → Prop} (hnd : ∀ (i : Nat) o, ops[i]? = some o → noDefer o.op = true) (hQ : ¬ LetsOut Q) : ∀ {fuel : Nat} {A : Array Bool} {a : Act} {w : World}, wpAny P md ops Q fuel A a w → wpAnyIn (FF ro) k P md ops Q fuel A a w
  | 0, A, a, w, h => h
  | fuel + 1, A, a, w, h => ⟨h.1, fun i hi => opAny_FF hnd hQ (fun a w hk => any_FF hnd hQ hk) (h.2 i hi)⟩
theorem Post.in {D : List Deferred} {x : AX} {s' : AS} : ¬ LetsOut (Post D E n m φ st x s') := by
  rintro ⟨a, w, m', φ', μ', _, _, _, _, _, _, h⟩
  cases x with
  | normal => cases h
  | exit i => cases h
  | ret => cases h
  | pan v => obtain ⟨u, h, _⟩ := h; cases h
end
end Go.Am

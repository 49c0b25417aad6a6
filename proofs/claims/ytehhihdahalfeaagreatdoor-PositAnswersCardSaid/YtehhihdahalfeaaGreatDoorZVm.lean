/-
  The plain machine answers with more fuel what it answers with less: so what the kernel reckons is found. Plain lemmas, no statement of the seat.
-/
import Derived.Test.YtehhihdahalfeaaGreatDoorZVc
set_option linter.unusedVariables false
set_option linter.unusedSimpArgs false
set_option linter.unnecessarySimpa false
namespace Go.Am
open Go Go.Hb
open Go.Gw (tk tf tz tsl tar tpl isAggD callable looks deps statOk)
structure Ev.le (e e':Ev):Prop where
  call:∀ {f a st r},e.call f a st=some r→e'.call f a st=some r
  loop:∀ {ks k0 c s r},e.loop ks k0 c s=some r→e'.loop ks k0 c s=some r
  yield:∀ {a st r},e.yield a st=some r→e'.yield a st=some r
section
variable {C:Cfg} {e e':Ev}
theorem acallM_mono {c c':List PV→Sto→Option (AEnd × Sto)} (h:∀ {a st r},c a st=some r→c' a st=some r) {args:List PV} {π:List Nat} {st:Sto} {r:AEnd × Sto} (hx:acallM c args π st=some r):acallM c' args π st=some r:=by
  unfold acallM at hx ⊢
  split at hx
  · rename_i st0 h1 h2
    cases hc:c (args.map (renPV (fun i=>place i 0 π) 8)) st0 with
    |none=>rw [hc] at hx; cases hx
    |some q =>
      rw [hc] at hx
      (try simp only [h1,h2,h hc])
      exact hx
  · cases hx
theorem acallS_mono (h:e.le e') {f:FuncId} {args:List PV} {st:Sto} {r:AEnd × Sto} (hx:acallS C e f args st=some r):acallS C e' f args st=some r:=by
  cases hh:handed C f args st with
  |none =>
    unfold handed at hh
    unfold acallS at hx
    cases hr:C.raw f <;> simp only [hr] at hh hx
    · rw [hh] at hx; cases hx
    · cases hh
  |some q =>
    obtain ⟨args',st'⟩:=q
    rw [acallS_eq hh] at hx ⊢
    split at hx
    · rename_i hp
      cases hc:e.call f args' [] with
      |none=>rw [hc] at hx; cases hx
      |some q=>rw [hc] at hx; (try simp only [h.call hc]); exact hx
    · rename_i hp
      exact acallM_mono (fun h1=>h.call h1) hx
theorem sCall_mono (h:e.le e') {ρ:AEnv} {st:Sto} {g:Operand} {xs:List Operand} {r:AR} (hx:sCall C e ρ st g xs=some r):sCall C e' ρ st g xs=some r:=by
  unfold sCall at hx ⊢
  split at hx
  · rename_i f a b vs h1 h2
    (try simp only [h1,h2])
    split at hx
    · rename_i hc
      (try simp only [hc])
      cases hh:acallS C e f (a ++ vs ++ b) st with
      |none=>rw [hh] at hx; cases hx
      |some q=>rw [hh] at hx; rw [acallS_mono h hh]; exact hx
    · cases hx
  · cases hx
theorem aS_mono (h:e.le e') {ρ:AEnv} {st:Sto} {o:Op} {r:AR} (hx:aS C e ρ st o=some r):aS C e' ρ st o=some r:=by
  cases o with
  |call c =>
    obtain ⟨callee,xs,ts⟩:=c
    cases callee with
    |value g=>exact sCall_mono h hx
    |invoke r m=>exact hx
    |builtin b=>cases b <;> exact hx
  |_=>exact hx
theorem aoper_mono (h:e.le e') {ρ:AEnv} {st:Sto} {o:Op} {r:AR} (hx:aoper C e ρ st o=some r):aoper C e' ρ st o=some r:=by
  unfold aoper at hx ⊢
  split at hx
  · rename_i ha
    (try simp only [ha])
    exact aS_mono h hx
  · rename_i ha
    (try simp only [ha])
    split at hx
    · rename_i v hv; (try simp only [hv]); exact hx
    · rename_i hv
      (try simp only [hv])
      split at hx
      · rename_i v hk; (try simp only [hk]); exact hx
      · rename_i hk; (try simp only [hk]); exact aS_mono h hx
theorem aoperY_mono (h:e.le e') {ρ:AEnv} {st:Sto} {o:Op} {r:AR} (hx:aoperY C e ρ st o=some r):aoperY C e' ρ st o=some r:=by
  unfold aoperY at hx ⊢
  split at hx
  · rename_i g xs ts
    split at hx
    · rename_i id hg
      (try simp only [hg])
      split at hx
      · rename_i vs hvs
        unfold sYield at hx ⊢
        split at hx
        · rename_i vs1 st1 hp
          (try simp only [hp])
          cases hh:acallM e.yield (.yl id :: vs1) (close st1 64 ((PV.yl id :: vs1).flatMap (ids 8)) []).reverse st1 with
          |none=>rw [hh] at hx; cases hx
          |some q=>rw [hh] at hx; rw [acallM_mono (fun h1=>h.yield h1) hh]; exact hx
        · cases hx
      · cases hx
    · exact aoper_mono h hx
  · split at hx
    · rename_i hq
      (try simp only [hq])
      exact aoper_mono h hx
    · cases hx
theorem aops_mono (h:e.le e') {ops:Array Oper}:∀ {l:List Oper} {s:AS} {r:AX × AS},aops C e ops l s=some r→aops C e' ops l s=some r
  |[],s,r,hx=>hx
  |o :: l,s,r,hx=>by
    unfold aops at hx ⊢
    split at hx
    · rename_i hg
      (try simp only [hg])
      cases ho:aoperY C e s.env s.st o.op with
      |none=>rw [ho] at hx; cases hx
      |some q =>
        rw [ho] at hx
        rw [aoperY_mono h ho]
        cases q with
        |val v st=>exact aops_mono h hx
        |unit st=>exact aops_mono h hx
        |pan v st=>exact hx
    · rename_i hg
      (try simp only [hg])
      exact aops_mono h hx
    · cases hx
theorem pureAct_mono (h:e.le e') {ρ:AEnv} {st:Sto} {o:Op}:(∀ v,pureAct C e ρ o=some v→pureAct C e' ρ o=some v)∧(∀ r,pureAct C e ρ o=none→aS C e ρ st o=some r→pureAct C e' ρ o=none):=by
  cases o with
  |call c =>
    obtain ⟨callee,xs,ts⟩:=c
    cases callee with
    |value g =>
      refine ⟨fun v hx=>?_,fun r hx hs=>?_⟩
      · unfold pureAct at hx ⊢
        simp only at hx ⊢
        split at hx
        · rename_i f a b vs h1 h2
          (try simp only [h1,h2])
          split at hx
          · rename_i hc
            (try simp only [hc])
            cases hh:e.call f (a ++ vs ++ b) [] with
            |none=>rw [hh] at hx; cases hx
            |some q=>rw [hh] at hx; rw [h.call hh]; exact hx
          · cases hx
        · cases hx
      · have hs:sCall C e ρ st g xs.toList=some r:=hs
        unfold sCall at hs
        unfold pureAct at hx ⊢
        simp only at hx ⊢
        split at hs
        · rename_i f a b vs h1 h2
          (try simp only [h1,h2] at hx ⊢)
          split
          · rename_i hc
            (try simp only [hc] at hx)
            rw [Bool.and_eq_true] at hc
            split at hs
            · cases hh:e.call f (a ++ vs ++ b) [] with
              |none =>
                rw [acallS_eq (handed_pure hc.2)] at hs
                (try simp only [hc.2,hh] at hs)
                cases hs
              |some q =>
                rw [hh] at hx
                rw [h.call hh]
                exact hx
            · cases hs
          · rfl
        · cases hs
    |invoke r m=>exact ⟨fun v hx=>hx,fun r hx _=>hx⟩
    |builtin b=>exact ⟨fun v hx=>hx,fun r hx _=>hx⟩
  |_=>exact ⟨fun v hx=>hx,fun r hx _=>hx⟩
theorem drawOp_mono (h:e.le e') {ops:Array Oper} {o:Oper} {ρ:AEnv} {st:Sto} {r:PV × Sto × DK} (hx:drawOp C e ops o ρ st=some r):drawOp C e' ops o ρ st=some r:=by
  unfold drawOp at hx ⊢
  split at hx
  · rename_i hg; (try simp only [hg]); exact hx
  · rename_i hg
    (try simp only [hg])
    split at hx
    · rename_i v hv; (try simp only [hv]); exact hx
    · rename_i hv
      (try simp only [hv])
      split at hx
      · rename_i v hk; (try simp only [hk]); exact hx
      · rename_i hk
        (try simp only [hk])
        split at hx
        · rename_i v hp
          (try simp only [(pureAct_mono h (st:=st)).1 v hp])
          exact hx
        · rename_i hp
          split at hx
          · rename_i v st1 ha
            (try simp only [(pureAct_mono h).2 _ hp ha,aS_mono h ha])
            exact hx
          · rename_i st1 ha
            (try simp only [(pureAct_mono h).2 _ hp ha,aS_mono h ha])
            exact hx
          · cases hx
  · cases hx
theorem drawRun_mono (h:e.le e') {ops:Array Oper}:∀ {l:List Oper} {s:AS} {r:AS × List Tr},drawRun C e ops l s=some r→drawRun C e' ops l s=some r
  |[],s,r,hx=>hx
  |o :: l,s,r,hx=>by
    unfold drawRun at hx ⊢
    split at hx
    · rename_i v st d hd
      (try simp only [drawOp_mono h hd])
      split at hx
      · rename_i s' l' hr
        (try simp only [drawRun_mono h hr])
        exact hx
      · cases hx
    · cases hx
theorem exec_mono (h:e.le e'):∀ {c:Code} {s:AS} {r:AX × AS},exec C e c s=some r→exec C e' c s=some r:=by
  intro c
  induction c with
  |region id ops draw =>
    intro s r hx
    (try simp only [exec] at hx ⊢)
    split at hx
    · exact aops_mono h hx
    · unfold adraw at hx ⊢
      split at hx
      · rename_i s' l hr
        (try simp only [drawRun_mono h hr])
        exact hx
      · cases hx
  |seq a b iha ihb =>
    intro s r hx
    (try simp only [exec] at hx ⊢)
    cases ha:exec C e a s with
    |none=>rw [ha] at hx; cases hx
    |some q =>
      obtain ⟨x,s1⟩:=q
      rw [ha] at hx
      rw [iha ha]
      cases x with
      |normal=>exact ihb hx
      |_=>exact hx
  |cond c a b iha ihb =>
    intro s r hx
    (try simp only [exec] at hx ⊢)
    split at hx
    · rename_i v hv
      (try simp only [hv])
      split at hx
      · exact iha hx
      · exact ihb hx
    · cases hx
  |block id c ih =>
    intro s r hx
    (try simp only [exec] at hx ⊢)
    cases ha:exec C e c s with
    |none=>rw [ha] at hx; cases hx
    |some q=>rw [ha] at hx; rw [ih ha]; exact hx
  |loop c _=>intro s r hx; exact h.loop hx
  |rangeFunc f ps a b _ _ =>
    intro s r hx
    (try simp only [exec] at hx ⊢)
    unfold execRange at hx ⊢
    split at hx
    · rename_i g xs ys hg
      (try simp only [hg])
      split at hx
      · rename_i hc
        (try simp only [hc])
        cases hh:acallS C e g (xs ++ [.yl s.st.length] ++ ys) (s.st ++ [.lp s.env ps.toList a b .ready]) with
        |none=>rw [hh] at hx; cases hx
        |some q=>rw [hh] at hx; rw [acallS_mono h hh]; exact hx
      · cases hx
    · cases hx
  |_=>intro s r hx; exact hx
theorem callF_mono (h:e.le e') {f:FuncId} {args:List PV} {st:Sto} {r:AEnd × Sto} (hx:callF C e f args st=some r):callF C e' f args st=some r:=by
  unfold callF at hx ⊢
  split at hx
  · rename_i F hF; (try simp only [hF]); exact hx
  · rename_i hF
    (try simp only [hF])
    split at hx
    · rename_i fn hfn
      (try simp only [hfn])
      split at hx
      · rename_i c hc
        (try simp only [hc])
        split at hx
        · rename_i hb
          (try simp only [hb])
          cases hh:exec C e c ⟨argE 0 args,st⟩ with
          |none=>rw [hh] at hx; cases hx
          |some q=>rw [hh] at hx; rw [exec_mono h hh]; exact hx
        · cases hx
      · cases hx
    · cases hx
theorem loopF_mono (h:e.le e') {ks:List Nat} {k0:Nat} {c:Code} {s:AS} {r:AX × AS} (hx:loopF C e ks k0 c s=some r):loopF C e' ks k0 c s=some r:=by
  unfold loopF at hx ⊢
  cases hh:exec C e c s with
  |none=>rw [hh] at hx; cases hx
  |some q =>
    obtain ⟨x,s1⟩:=q
    rw [hh] at hx
    rw [exec_mono h hh]
    cases x with
    |normal =>
      simp only at hx ⊢
      split at hx
      · rename_i ρ hc; (try simp only [hc]); exact h.loop hx
      · cases hx
    |_=>exact hx
theorem yieldF_mono (h:e.le e') {args:List PV} {st:Sto} {r:AEnd × Sto} (hx:yieldF C e args st=some r):yieldF C e' args st=some r:=by
  unfold yieldF at hx ⊢
  split at hx
  · rename_i id vs
    try simp only
    split at hx
    · rename_i ρ ps a b hst
      (try simp only [hst])
      split at hx
      · rename_i s1 hl he
        (try simp only [hl,exec_mono h he])
        split at hx
        · rename_i ρ1 ps1 a1 b1 h1
          (try simp only [h1])
          cases hh:exec C e b ⟨s1.env,s1.st.set id (.lp ρ1 ps1 a1 b1 .busy)⟩ with
          |none=>rw [hh] at hx; cases hx
          |some q=>rw [hh] at hx; rw [exec_mono h hh]; exact hx
        · cases hx
      · cases hx
    · cases hx
  · cases hx
theorem ev_le:∀ n,(ev C n).le (ev C (n + 1))
  |0=>⟨fun h=>by simp [ev] at h,fun h=>by simp [ev] at h,fun h=>by simp [ev] at h⟩
  |n + 1=>⟨fun h=>callF_mono (ev_le n) h,fun h=>loopF_mono (ev_le n) h,fun h=>yieldF_mono (ev_le n) h⟩
theorem ev_call {f:FuncId} {args:List PV} {st:Sto} {r:AEnd × Sto} {n:Nat} (h:(ev C n).call f args st=some r):∀ {k:Nat},n ≤ k→(ev C k).call f args st=some r:=fun {k} hk=>by
  induction k with
  |zero =>
    obtain rfl:n=0:=by omega
    exact h
  |succ k ih =>
    rcases Nat.lt_or_ge n (k + 1) with h1|h1
    · exact (ev_le k).call (ih (by omega))
    · obtain rfl:n=k + 1:=by omega
      exact h
/-- what was reckoned is found -/
theorem finds_of {f:FuncId} {args:List PV} {st st':Sto} {r:AEnd} {Q:AEnd→Sto→Prop} (n:Nat) (h:(ev C n).call f args st=some (r,st')) (hq:Q r st'):Finds C f args st Q:=⟨r,st',hq,n,fun _ hk=>ev_call h hk⟩
theorem pf_of {f:FuncId} {args rs:List PV} {st':Sto} (n:Nat) (h:(ev C n).call f args []=some (.ret rs,st')):Pf C f args rs:=finds_of n h rfl
/-- a function at its word -/
theorem pf_at {f:FuncId} {F:List PV→Sto→Option (AEnd × Sto)} {args rs:List PV} {st':Sto} (hn:C.nat f=some F) (h:F args []=some (.ret rs,st')):Pf C f args rs:=pf_of (st':=st') 1 (by
  show callF C (ev C 0) f args []=_
  unfold callF
  rw [hn]
  exact h)
theorem finds_at {f:FuncId} {F:List PV→Sto→Option (AEnd × Sto)} {args:List PV} {st st':Sto} {r:AEnd} {Q:AEnd→Sto→Prop} (hn:C.nat f=some F) (h:F args st=some (r,st')) (hq:Q r st'):Finds C f args st Q:=finds_of 1 (by
  show callF C (ev C 0) f args st=_
  unfold callF
  rw [hn]
  exact h) hq
/-- .. of what is free of the store alone -/
def natP (F:List PV→Option (List PV)) (args:List PV) (st:Sto):Option (AEnd × Sto):=match st with
  |[]=>match F args with
    |some rs=>some (.ret rs,[])
    |none=>none
  |_=>none
theorem pf_nat {f:FuncId} {F:List PV→Option (List PV)} {args rs:List PV} (hn:C.nat f=some (natP F)) (h:F args=some rs):Pf C f args rs:=pf_at hn (by
  unfold natP
  rw [h])
/-- what was found with other functions at their word is as good as a word -/
theorem does_of {C':Cfg} (hP:C'.P=C.P) (hC:∀ n,CallOk C'.P (ev C' n).call) {f:FuncId} {F:List PV→Sto→Option (AEnd × Sto)} (h:∀ args st r st',F args st=some (r,st')→∃ n,(ev C' n).call f args st=some (r,st')):DoesOk (CallD C.P f) F:=fun args st r st' hx w m φ μ vs hs hr=>by
  obtain ⟨n,hn⟩:=h args st r st' hx
  have:=hC n f args st r st' hn w m φ μ vs hs hr
  rw [hP] at this
  exact this
end
end Go.Am

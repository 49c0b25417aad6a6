/-
  The plain machine answers with more fuel what it answers with less: so what the kernel reckons is found. Plain lemmas, no statement of the seat.
-/
import Derived.Test.YtljnahbgfmflaaaGreatDoorZVc
import Derived.Test.YtljnahbgfmflaaaGreatDoorChecked
import Derived.WalkKit
import Derived.Test.YtljnahbgfmflaaaGreatDoorZGwo
set_option linter.unusedVariables false
set_option maxRecDepth 100000
set_option linter.unusedSimpArgs false
set_option linter.unnecessarySimpa false
namespace Go.Am
open Go Go.Hb
open Go.Gw (tk tf tz tsl tar tpl isAggD callable looks deps statOk)
structure Ev.le (e e':Ev):Prop where
 call:∀ {f a st r},e.call f a st=some r→e'.call f a st=some r
 loop:∀ {ks k0 c s r},e.loop ks k0 c s=some r→e'.loop ks k0 c s=some r
 yield:∀ {a st r},e.yield a st=some r→e'.yield a st=some r
section
variable {C:Cfg} {e e':Ev}
theorem j9J {c c':List PV→Sto→Option (AEnd × Sto)} (h:∀ {a st r},c a st=some r→c' a st=some r) {args:List PV} {π:List Nat} {st:Sto} {r:AEnd × Sto} (hx:j3E c args π st=some r):j3E c' args π st=some r:=by
 unfold j3E at hx ⊢
 split at hx
 ·rename_i st0 h1 h2
  cases hc:c (args.map (j1a (fun i=>place i 0 π) 8)) st0 with
  |none=>rw [hc] at hx; cases hx
  |some q =>
   rw [hc] at hx
   (try simp only [h1,h2,h hc])
   exact hx
 ·cases hx
theorem j9T (h:e.le e') {f:FuncId} {args:List PV} {st:Sto} {r:AEnd × Sto} (hx:j2e C e f args st=some r):j2e C e' f args st=some r:=by
 cases hh:handed C f args st with
 |none =>
  unfold handed at hh
  unfold j2e at hx
  cases hr:C.raw f <;> simp only [hr] at hh hx
  ·rw [hh] at hx; cases hx
  ·cases hh
 |some q =>
  obtain ⟨args',st'⟩:=q
  rw [j2g hh] at hx ⊢
  split at hx
  ·rename_i hp
   cases hc:e.call f args' [] with
   |none=>rw [hc] at hx; cases hx
   |some q=>rw [hc] at hx; (try simp only [h.call hc]); exact hx
  ·rename_i hp
   exact j9J (fun h1=>h.call h1) hx
theorem jaD (h:e.le e') {ρ:AEnv} {st:Sto} {g:Operand} {xs:List Operand} {r:AR} (hx:j4R C e ρ st g xs=some r):j4R C e' ρ st g xs=some r:=by
 unfold j4R at hx ⊢
 split at hx
 ·rename_i f a b vs h1 h2
  (try simp only [h1,h2])
  split at hx
  ·rename_i hc
   (try simp only [hc])
   cases hh:j2e C e f (a ++ vs ++ b) st with
   |none=>rw [hh] at hx; cases hx
   |some q=>rw [hh] at hx; rw [j9T h hh]; exact hx
  ·cases hx
 ·cases hx
theorem jbx (h:e.le e') {ρ:AEnv} {st:Sto} {o:Op} {r:AR} (hx:aS C e ρ st o=some r):aS C e' ρ st o=some r:=by
 cases o with
 |call c =>
  obtain ⟨callee,xs,ts⟩:=c
  cases callee with
  |value g=>exact jaD h hx
  |invoke r m=>exact hx
  |builtin b=>cases b <;> exact hx
 |_=>exact hx
theorem jaY (h:e.le e') {ρ:AEnv} {st:Sto} {o:Op} {r:AR} (hx:j5J C e ρ st o=some r):j5J C e' ρ st o=some r:=by
 unfold j5J at hx ⊢
 split at hx
 ·rename_i ha
  (try simp only [ha])
  exact jbx h hx
 ·rename_i ha
  (try simp only [ha])
  split at hx
  ·rename_i v hv; (try simp only [hv]); exact hx
  ·rename_i hv
   (try simp only [hv])
   split at hx
   ·rename_i v hk; (try simp only [hk]); exact hx
   ·rename_i hk; (try simp only [hk]); exact jbx h hx
theorem jfo (h:e.le e') {ρ:AEnv} {st:Sto} {o:Op} {r:AR} (hx:j3s C e ρ st o=some r):j3s C e' ρ st o=some r:=by
 unfold j3s at hx ⊢
 split at hx
 ·rename_i g xs ts
  split at hx
  ·rename_i id hg
   (try simp only [hg])
   split at hx
   ·rename_i vs hvs
    unfold jdL at hx ⊢
    split at hx
    ·rename_i vs1 st1 hp
     (try simp only [hp])
     cases hh:j3E e.yield (.yl id :: vs1) (close st1 64 ((PV.yl id :: vs1).flatMap (ids 8)) []).reverse st1 with
     |none=>rw [hh] at hx; cases hx
     |some q=>rw [hh] at hx; rw [j9J (fun h1=>h.yield h1) hh]; exact hx
    ·cases hx
   ·cases hx
  ·exact jaY h hx
 ·split at hx
  ·rename_i hq
   (try simp only [hq])
   exact jaY h hx
  ·cases hx
theorem j3C (h:e.le e') {ops:Array Oper}:∀ {l:List Oper} {s:AS} {r:AX × AS},aops C e ops l s=some r→aops C e' ops l s=some r
 |[],s,r,hx=>hx
 |o :: l,s,r,hx=>by
  unfold aops at hx ⊢
  split at hx
  ·rename_i hg
   (try simp only [hg])
   cases ho:j3s C e s.env s.st o.op with
   |none=>rw [ho] at hx; cases hx
   |some q =>
    rw [ho] at hx
    rw [jfo h ho]
    cases q with
    |val v st=>exact j3C h hx
    |unit st=>exact j3C h hx
    |pan v st=>exact hx
  ·rename_i hg
   (try simp only [hg])
   exact j3C h hx
  ·cases hx
theorem j5c (h:e.le e') {ρ:AEnv} {st:Sto} {o:Op}:(∀ v,j0U C e ρ o=some v→j0U C e' ρ o=some v)∧(∀ r,j0U C e ρ o=none→aS C e ρ st o=some r→j0U C e' ρ o=none):=by
 cases o with
 |call c =>
  obtain ⟨callee,xs,ts⟩:=c
  cases callee with
  |value g =>
   refine ⟨fun v hx=>?_,fun r hx hs=>?_⟩
   ·unfold j0U at hx ⊢
    simp only at hx ⊢
    split at hx
    ·rename_i f a b vs h1 h2
     (try simp only [h1,h2])
     split at hx
     ·rename_i hc
      (try simp only [hc])
      cases hh:e.call f (a ++ vs ++ b) [] with
      |none=>rw [hh] at hx; cases hx
      |some q=>rw [hh] at hx; rw [h.call hh]; exact hx
     ·cases hx
    ·cases hx
   ·have hs:j4R C e ρ st g xs.toList=some r:=hs
    unfold j4R at hs
    unfold j0U at hx ⊢
    simp only at hx ⊢
    split at hs
    ·rename_i f a b vs h1 h2
     (try simp only [h1,h2] at hx ⊢)
     split
     ·rename_i hc
      (try simp only [hc] at hx)
      rw [Bool.and_eq_true] at hc
      split at hs
      ·cases hh:e.call f (a ++ vs ++ b) [] with
       |none =>
        rw [j2g (j2o hc.2)] at hs
        (try simp only [hc.2,hh] at hs)
        cases hs
       |some q =>
        rw [hh] at hx
        rw [h.call hh]
        exact hx
      ·cases hs
     ·rfl
    ·cases hs
  |invoke r m=>exact ⟨fun v hx=>hx,fun r hx _=>hx⟩
  |builtin b=>exact ⟨fun v hx=>hx,fun r hx _=>hx⟩
 |_=>exact ⟨fun v hx=>hx,fun r hx _=>hx⟩
theorem j5Z (h:e.le e') {ops:Array Oper} {o:Oper} {ρ:AEnv} {st:Sto} {r:PV × Sto × DK} (hx:j0G C e ops o ρ st=some r):j0G C e' ops o ρ st=some r:=by
 unfold j0G at hx ⊢
 split at hx
 ·rename_i hg; (try simp only [hg]); exact hx
 ·rename_i hg
  (try simp only [hg])
  split at hx
  ·rename_i v hv; (try simp only [hv]); exact hx
  ·rename_i hv
   (try simp only [hv])
   split at hx
   ·rename_i v hk; (try simp only [hk]); exact hx
   ·rename_i hk
    (try simp only [hk])
    split at hx
    ·rename_i v hp
     (try simp only [(j5c h (st:=st)).1 v hp])
     exact hx
    ·rename_i hp
     split at hx
     ·rename_i v st1 ha
      (try simp only [(j5c h).2 _ hp ha,jbx h ha])
      exact hx
     ·rename_i st1 ha
      (try simp only [(j5c h).2 _ hp ha,jbx h ha])
      exact hx
     ·cases hx
 ·cases hx
theorem j7Z (h:e.le e') {ops:Array Oper}:∀ {l:List Oper} {s:AS} {r:AS × List Tr},j1u C e ops l s=some r→j1u C e' ops l s=some r
 |[],s,r,hx=>hx
 |o :: l,s,r,hx=>by
  unfold j1u at hx ⊢
  split at hx
  ·rename_i v st d hd
   (try simp only [j5Z h hd])
   split at hx
   ·rename_i s' l' hr
    (try simp only [j7Z h hr])
    exact hx
   ·cases hx
  ·cases hx
theorem jed {π:List Nat} {st st1 st':Sto} {rs:List PV} {v:PV} (h:j1I π st (.ret rs) st1=some (.pan v,st')):False:=by
 unfold j1I at h
 split at h
 ·simp only [Option.some.injEq,Prod.mk.injEq] at h
  have h1:=h.1
  unfold j4V at h1
  split at h1
  ·cases h1
  ·cases h1
 ·cases h
theorem jhx {ops:Array Oper} {o:Oper} {ρ:AEnv} {st:Sto} {r:PV × Sto} (hx:j7s C e ops o ρ st=some r):j0G C e ops o ρ st=none:=by
 unfold j7s at hx
 split at hx
 ·rename_i hg
  split at hx
  ·rename_i g xs ts hop
   split at hx
   ·rename_i v st1 hs
    have hs0:=hs
    unfold j4R at hs
    split at hs
    ·rename_i f a b vs hgv hxs
     split at hs
     ·rename_i hc
      have hp:j0U C e ρ (.call ⟨.value g,xs,ts⟩)=none:=by
       simp only [j0U,hgv,hxs,hc,Bool.true_and]
       split
       ·rename_i hp
        split
        ·rename_i rs st2 hcall
         exfalso
         rw [j2g (j2o hp)] at hs
         simp only [hp,hcall] at hs
         cases hpu:j5L (.ret rs) with
         |true =>
          rw [hpu] at hs
          cases hs
         |false =>
          rw [hpu] at hs
          simp only at hs
          cases hcb:j1I [] st (.ret rs) st2 with
          |none=>rw [hcb] at hs; cases hs
          |some q =>
           obtain ⟨q1,q2⟩:=q
           rw [hcb] at hs
           cases q1 with
           |ret _=>cases hs
           |pan _=>exact jed hcb
        ·rfl
       ·rfl
      have h1:aP C.P ρ (.call ⟨.value g,xs,ts⟩)=none:=rfl
      have h2:aK C.P ρ st (.call ⟨.value g,xs,ts⟩)=none:=rfl
      have h3:aS C e ρ st (.call ⟨.value g,xs,ts⟩)=some (.pan v st1):=hs0
      simp only [j0G,hg,hop,h1,h2,hp,h3]
     ·cases hs
    ·cases hs
   ·cases hx
  ·cases hx
 ·cases hx
theorem jhY (h:e.le e') {ops:Array Oper} {o:Oper} {ρ:AEnv} {st:Sto} {r:PV × Sto} (hx:j7s C e ops o ρ st=some r):j7s C e' ops o ρ st=some r:=by
 unfold j7s at hx ⊢
 split at hx
 ·rename_i hg
  (try simp only [hg])
  split at hx
  ·rename_i g xs ts hop
   (try simp only [hop])
   split at hx
   ·rename_i v st1 hs
    rw [jaD h hs]
    exact hx
   ·cases hx
  ·cases hx
 ·cases hx
theorem j3W (h:e.le e') {ops:Array Oper} {cl:List (List Nat)} {q:Nat}:∀ {l:List Oper} {i:Nat} {s:AS} {r:AS × List Tr},j1p C e ops cl q l i s=some r→j1p C e' ops cl q l i s=some r
 |[],i,s,r,hx=>hx
 |o :: l,i,s,r,hx=>by
  unfold j1p at hx ⊢
  split at hx
  ·rename_i hh
   (try simp only [hh])
   split at hx
   ·rename_i s' l' hr
    (try simp only [j3W h hr])
    exact hx
   ·cases hx
  ·rename_i hh
   (try simp only [hh])
   split at hx
   ·rename_i v st d hd
    (try simp only [j5Z h hd])
    split at hx
    ·rename_i s' l' hr
     (try simp only [j3W h hr])
     exact hx
    ·cases hx
   ·cases hx
theorem j8g (h:e.le e') {ops:Array Oper} {cl:List (List Nat)}:∀ {l:List Oper} {i:Nat} {s:AS} {r:PV × Sto × List Tr},j1J C e ops cl l i s=some r→j1J C e' ops cl l i s=some r
 |[],i,s,r,hx=>hx
 |o :: l,i,s,r,hx=>by
  unfold j1J at hx ⊢
  split at hx
  ·rename_i v st d hd
   (try simp only [j5Z h hd])
   split at hx
   ·rename_i x st' l' hr
    (try simp only [j8g h hr])
    exact hx
   ·cases hx
  ·split at hx
   ·rename_i v st hp
    have hp':=jhY h hp
    (try simp only [jhx hp',hp'])
    split at hx
    ·rename_i s' l' hr
     (try simp only [j3W h hr])
     exact hx
    ·cases hx
   ·cases hx
theorem j8d {ops:Array Oper} {cl:List (List Nat)}:∀ {l:List Oper} {i:Nat} {s:AS} {r:PV × Sto × List Tr},j1J C e ops cl l i s=some r→j1u C e ops l s=none
 |[],i,s,r,hx=>by simp [j1J] at hx
 |o :: l,i,s,r,hx=>by
  unfold j1J at hx
  unfold j1u
  split at hx
  ·rename_i v st d hd
   (try simp only [hd])
   split at hx
   ·rename_i x st' l' hr
    (try simp only [j8d hr])
   ·cases hx
  ·rename_i hd
   (try simp only [hd])
theorem j2y (h:e.le e'):∀ {c:Code} {s:AS} {r:AX × AS},exec C e c s=some r→exec C e' c s=some r:=by
 intro c
 induction c with
 |region id ops draw =>
  intro s r hx
  (try simp only [exec] at hx ⊢)
  split at hx
  ·exact j3C h hx
  ·unfold jiS at hx ⊢
   split at hx
   ·rename_i s' l hr
    (try simp only [j7Z h hr])
    exact hx
   ·split at hx
    ·rename_i v st l hp
     have hp':=j8g h hp
     (try simp only [j8d hp',hp'])
     exact hx
    ·cases hx
 |seq a b iha ihb =>
  intro s r hx
  (try simp only [exec] at hx ⊢)
  cases ha:exec C e a s with
  |none=>rw [ha] at hx; cases hx
  |some q =>
   obtain ⟨x,s1⟩:=q
   rw [ha] at hx
   rw [iha ha]
   cases x with
   |normal=>exact ihb hx
   |_=>exact hx
 |cond c a b iha ihb =>
  intro s r hx
  (try simp only [exec] at hx ⊢)
  split at hx
  ·rename_i v hv
   (try simp only [hv])
   split at hx
   ·exact iha hx
   ·exact ihb hx
  ·cases hx
 |block id c ih =>
  intro s r hx
  (try simp only [exec] at hx ⊢)
  cases ha:exec C e c s with
  |none=>rw [ha] at hx; cases hx
  |some q=>rw [ha] at hx; rw [ih ha]; exact hx
 |loop c _=>intro s r hx; exact h.loop hx
 |rangeFunc f ps a b _ _ =>
  intro s r hx
  (try simp only [exec] at hx ⊢)
  unfold j3l at hx ⊢
  split at hx
  ·rename_i g xs ys hg
   (try simp only [hg])
   split at hx
   ·rename_i hc
    (try simp only [hc])
    cases hh:j2e C e g (xs ++ [.yl s.st.length] ++ ys) (s.st ++ [.lp s.env ps.toList a b .ready]) with
    |none=>rw [hh] at hx; cases hx
    |some q=>rw [hh] at hx; rw [j9T h hh]; exact hx
   ·cases hx
  ·cases hx
 |_=>intro s r hx; exact hx
theorem jhA (h:e.le e'):∀ {c:Code} {s:AS} {r:AX × AS × Option PV},j4e C e c s=some r→j4e C e' c s=some r:=by
 intro c
 have plain:∀ {c:Code},(∀ e s,j4e C e c s=match exec C e c s with
  |some (x,s1)=>some (x,s1,none)
  |none=>none)→∀ {s:AS} {r:AX × AS × Option PV},j4e C e c s=some r→j4e C e' c s=some r:=fun {c} hc {s r} hx=>by
  rw [hc] at hx ⊢
  cases h1:exec C e c s with
  |none=>simp [h1] at hx
  |some q =>
   rw [h1] at hx
   rw [j2y h h1]
   exact hx
 induction c with
 |seq a b _ ihb =>
  intro s r hx
  simp only [j4e] at hx ⊢
  split at hx
  ·rename_i ops o g hc
   (try simp only [hc])
   split at hx
   ·rename_i s1 h1
    (try simp only [j3C h h1])
    split at hx
    ·rename_i D p q hg
     (try simp only [hg])
     cases h2:exec C e b s1 with
     |none=>simp [h2] at hx
     |some q =>
      rw [h2] at hx
      rw [j2y h h2]
      exact hx
    ·cases hx
   ·cases hx
  ·rename_i hc
   (try simp only [hc])
   cases h1:exec C e a s with
   |none=>simp [h1] at hx
   |some q =>
    obtain ⟨x,s1⟩:=q
    rw [h1] at hx
    rw [j2y h h1]
    cases x with
    |normal=>exact ihb hx
    |_=>exact hx
 |_=>exact plain fun e s=>rfl
theorem jf1 (h:e.le e') {D:FuncId} {args:List PV} {v:Option PV} {st:Sto} {r:Option PV × Sto} (hx:j4B C e D args v st=some r):j4B C e' D args v st=some r:=by
 unfold j4B at hx ⊢
 split at hx
 ·rename_i fn hfn
  (try simp only [hfn])
  split at hx
  ·rename_i c hc
   (try simp only [hc])
   split at hx
   ·rename_i ops d r0 rest hr
    (try simp only [hr])
    split at hx
    ·rename_i hb
     (try simp only [hb])
     cases h1:aops C e ops r0 ⟨aput (some d) (jiI v) (argE 0 args),st⟩ with
     |none=>simp [h1] at hx
     |some q =>
      obtain ⟨x,s1⟩:=q
      rw [h1] at hx
      rw [j3C h h1]
      cases x with
      |normal =>
       simp only at hx ⊢
       cases h2:exec C e rest s1 with
       |none=>simp [h2] at hx
       |some q2 =>
        rw [h2] at hx
        rw [j2y h h2]
        exact hx
      |_=>exact hx
    ·cases hx
   ·cases hx
  ·cases hx
 ·cases hx
theorem jkJ (h:e.le e') {f:FuncId} {fn:Func} {k0:Nat} {x:AX} {s:AS} {cl:Option PV} {r:AEnd × Sto} (hx:endD C e f fn k0 x s cl=some r):endD C e' f fn k0 x s cl=some r:=by
 cases cl with
 |none=>exact hx
 |some c =>
  simp only [endD] at hx ⊢
  split at hx
  ·rename_i D p q v hv
   (try simp only [hv])
   cases h1:j4B C e D (p ++ q) v s.st with
   |none=>simp [h1] at hx
   |some o =>
    rw [h1] at hx
    rw [jf1 h h1]
    exact hx
  ·cases hx
theorem jhT (h:e.le e') {f:FuncId} {args:List PV} {st:Sto} {r:AEnd × Sto} (hx:j5F C e f args st=some r):j5F C e' f args st=some r:=by
 unfold j5F at hx ⊢
 split at hx
 ·rename_i F hF; (try simp only [hF]); exact hx
 ·rename_i hF
  (try simp only [hF])
  split at hx
  ·rename_i fn hfn
   (try simp only [hfn])
   split at hx
   ·rename_i c hc
    (try simp only [hc])
    split at hx
    ·rename_i hb
     (try simp only [hb])
     split at hx
     ·rename_i hcut
      (try simp only [hcut])
      cases hh:exec C e c ⟨argE 0 args,st⟩ with
      |none=>rw [hh] at hx; cases hx
      |some q=>rw [hh] at hx; rw [j2y h hh]; exact hx
     ·rename_i hcut
      (try simp only [hcut])
      cases hh:j4e C e c ⟨argE 0 args,st⟩ with
      |none=>rw [hh] at hx; cases hx
      |some q =>
       obtain ⟨x,s,cl⟩:=q
       rw [hh] at hx
       rw [jhA h hh]
       exact jkJ h hx
    ·cases hx
   ·cases hx
  ·cases hx
theorem jj1 (h:e.le e') {ks:List Nat} {k0:Nat} {c:Code} {s:AS} {r:AX × AS} (hx:jak C e ks k0 c s=some r):jak C e' ks k0 c s=some r:=by
 unfold jak at hx ⊢
 cases hh:exec C e c s with
 |none=>rw [hh] at hx; cases hx
 |some q =>
  obtain ⟨x,s1⟩:=q
  rw [hh] at hx
  rw [j2y h hh]
  cases x with
  |normal =>
   simp only at hx ⊢
   split at hx
   ·rename_i ρ hc; (try simp only [hc]); exact h.loop hx
   ·cases hx
  |_=>exact hx
theorem jeZ (h:e.le e') {args:List PV} {st:Sto} {r:AEnd × Sto} (hx:j8j C e args st=some r):j8j C e' args st=some r:=by
 unfold j8j at hx ⊢
 split at hx
 ·rename_i id vs
  try simp only
  split at hx
  ·rename_i ρ ps a b hst
   (try simp only [hst])
   split at hx
   ·rename_i s1 hl he
    (try simp only [hl,j2y h he])
    split at hx
    ·rename_i ρ1 ps1 a1 b1 h1
     (try simp only [h1])
     cases hh:exec C e b ⟨s1.env,s1.st.set id (.lp ρ1 ps1 a1 b1 .busy)⟩ with
     |none=>rw [hh] at hx; cases hx
     |some q=>rw [hh] at hx; rw [j2y h hh]; exact hx
    ·cases hx
   ·cases hx
  ·cases hx
 ·cases hx
theorem jla:∀ n,(ev C n).le (ev C (n + 1))
 |0=>⟨fun h=>by simp [ev] at h,fun h=>by simp [ev] at h,fun h=>by simp [ev] at h⟩
 |n + 1=>⟨fun h=>jhT (jla n) h,fun h=>jj1 (jla n) h,fun h=>jeZ (jla n) h⟩
theorem joT {f:FuncId} {args:List PV} {st:Sto} {r:AEnd × Sto} {n:Nat} (h:(ev C n).call f args st=some r):∀ {k:Nat},n ≤ k→(ev C k).call f args st=some r:=fun {k} hk=>by
 induction k with
 |zero =>
  obtain rfl:n=0:=by omega
  exact h
 |succ k ih =>
  rcases Nat.lt_or_ge n (k + 1) with h1|h1
  ·exact (jla k).call (ih (by omega))
  ·obtain rfl:n=k + 1:=by omega
   exact h
theorem jgI {f:FuncId} {args:List PV} {st st':Sto} {r:AEnd} {Q:AEnd→Sto→Prop} (n:Nat) (h:(ev C n).call f args st=some (r,st')) (hq:Q r st'):Finds C f args st Q:=⟨r,st',hq,n,fun _ hk=>joT h hk⟩
theorem jfn {f:FuncId} {args rs:List PV} {st':Sto} (n:Nat) (h:(ev C n).call f args []=some (.ret rs,st')):Pf C f args rs:=jgI n h rfl
theorem jqP {f:FuncId} {F:List PV→Sto→Option (AEnd × Sto)} {args rs:List PV} {st':Sto} (hn:C.nat f=some F) (h:F args []=some (.ret rs,st')):Pf C f args rs:=jfn (st':=st') 1 (by
 show j5F C (ev C 0) f args []=_
 unfold j5F
 rw [hn]
 exact h)
def natP (F:List PV→Option (List PV)) (args:List PV) (st:Sto):Option (AEnd × Sto):=match st with
 |[]=>match F args with
  |some rs=>some (.ret rs,[])
  |none=>none
 |_=>none
theorem jo5 {f:FuncId} {F:List PV→Option (List PV)} {args rs:List PV} (hn:C.nat f=some (natP F)) (h:F args=some rs):Pf C f args rs:=jqP hn (by
 unfold natP
 rw [h])
end
end Go.Am
namespace Go.Proofs.YtljnahbgfmflaaaGreatDoor
open Go Go.RowKit
theorem jm3 (n:Nat) (h0:0 < n) (hn:n ≤ 1000000) (w:World) :
  Calls Tryz.prog 315 #[.slice none 0 0,.int .i64 n] w fun en w'=>∃ cap cs,en = .returned (.slice (some ⟨w.heap.size,0,none⟩) 0 cap)∧w'=w.drew.alloc (.cells cs 25)∧cs.size=cap * 5∧cap ≤ maxLen:=by
 have hw:IntKind.i64.wrap (n:Int)=n:=Gw.wrap_i64 (by unfold Gw.i64; omega)
 have hby:(Tryz.t25).bytes=80:=rfl
 go_enter Tryz.func315,Tryz.ntmps315
 go_wp2
 ·rename_i hc
  exfalso
  rw [nextslicecap_zero h0] at hc
  omega
 ·go_ret
  have hge:=grownCap_ge w n 0 25
  have hle:=grownCap_le_maxLen w n 0 25 (by unfold maxLen; omega)
  refine ⟨grownCap w n 0 25,_,rfl,rfl,?_,hle⟩
  simp only [Array.size_append,size_zeroCells]
  show n * 5 + (grownCap w n 0 25 - n) * 5=_
  omega
open Go.Am Go.Hb in
def jiL:List PV→Sto→Option (AEnd × Sto)
 |[.sl true 0 [],.sc (.int .i64 n)],[]=>match decide (0 < n) && decide (n ≤ 1000000) with
  |true=>some (.ret [.ms 0 0],[.row false 25 5 []])
  |false=>match decide (n=0) with
   |true=>some (.ret [.sl true 0 []],[])
   |false=>none
 |_,_=>none
theorem jjh (w:World):Calls Tryz.prog 315 #[.slice none 0 0,.int .i64 0] w fun en w'=>en = .returned (.slice none 0 0)∧w'=w:=by
 go_enter Tryz.func315,Tryz.ntmps315
 go_wp2
 all_goals
  go_ret
  exact ⟨rfl,rfl⟩
open Go.Am Go.Hb in
theorem jok:j3S (jbP Tryz.prog 315) jiL:=fun args st r st' hx w m φ μ vs hs hr=>by
 unfold jiL at hx
 split at hx
 ·rename_i n
  obtain ⟨v1,vs1,rfl,h1,h2⟩:=hr.uncons
  obtain ⟨v2,vs2,rfl,h3,h4⟩:=h2.uncons
  have:vs2=[]:=List.eq_nil_of_length_eq_zero h4.1.symm
  subst this
  obtain rfl:=h3.sc_eq
  cases h1 with
  | @sl _ _ _ _ ad cap b0 off0 g ha hcap hmax hfull hel hrr hnil =>
   obtain rfl:=hfull rfl
   obtain rfl:=hnil rfl rfl
   simp only [List.length_nil]
   split at hx
   ·rename_i hb
    rw [Bool.and_eq_true,decide_eq_true_eq,decide_eq_true_eq] at hb
    cases hx
    obtain ⟨k,rfl⟩:∃ k:Nat,n=k:=⟨n.toNat,by omega⟩
    refine (jm3 k (by omega) (by omega) w).mono fun en w' ⟨cap,cs,e1,e2,e3,e4⟩=>?_
    subst e1
    subst e2
    have hs':Sit ⟨w,m,feetOf μ⟩ m φ μ [] w:=⟨Hb.Good.start (ν:=[]) (by simpa using hs.good),hs.sto,hs.dom⟩
    have hg0:=(hs'.good.drew (w.drawn + 1)).new (.cells cs 25)
    have hg1:Hb.Good ⟨w,m,feetOf μ⟩ (w.drew.alloc (.cells cs 25)) m (.row false (.slice (some ⟨w.heap.size,0,none⟩) 0 cap) 25 5 0 [] :: μ):=by
     have hg00:Hb.Good ⟨w,m,feetOf μ⟩ (w.drew.alloc (.cells cs 25)) m (.blk w.heap.size (.cells cs 25) :: μ):=hg0
     exact hg00.turn (w':=w.drew.alloc (.cells cs 25)) rfl rfl rfl (Nat.le_refl _) (fun _ _ _=>rfl) (fun b' o u hf hm=>hg00.sub b' o u hm) (by
       refine ⟨rfl,.inr ⟨w.heap.size,cap,cs,(0,0),rfl,heap_alloc_new w.drew _,.inl rfl,Nat.zero_le _,e4,e3,by simp⟩⟩)
      (fun b' hf=>.inl ⟨hf,by simp [Res.lim]⟩)
    obtain ⟨hsit,hext⟩:=hs'.push (p:=.row (.slice (some ⟨w.heap.size,0,none⟩) 0 cap) 0 5) (o:=.row false 25 5 []) hg1 ⟨some ⟨w.heap.size,0,none⟩,cap,[],by rw [j0t]; rfl,rfl,by omega,⟨rfl,fun i x vs hi=>by simp at hi⟩⟩
    exact ⟨m,_,_,hext,hsit,[_],rfl,.cons (.ms (j0t _ _ _) (Nat.le_refl _) (fun _=>rfl) ⟨_,_,_,rfl⟩) .nil⟩
   ·split at hx
    ·rename_i hb
     rw [decide_eq_true_eq] at hb
     cases hx
     subst hb
     refine (jjh w).mono fun en w' ⟨e1,e2⟩=>?_
     subst e1
     subst e2
     have hs':Sit ⟨w',m,feetOf μ⟩ m φ μ [] w':=⟨Hb.Good.start (ν:=[]) (by simpa using hs.good),hs.sto,hs.dom⟩
     exact ⟨m,φ,μ,Ext.refl _ _,hs',[_],rfl,.cons (.sl b0 off0 g ha hcap hmax hfull hel hrr hnil) .nil⟩
    ·cases hx
 ·cases hx
end Go.Proofs.YtljnahbgfmflaaaGreatDoor
namespace Go.Gw
open Go
inductive Lv where
 |mk (k n:Int) (ls:List Lv)
mutual
theorem Lv.ind {P:Lv→Prop} (h:∀ k n ls,(∀ l ∈ ls,P l)→P (.mk k n ls)):∀ l,P l
 | .mk k n ls=>h k n ls (Lv.inds h ls)
theorem Lv.inds {P:Lv→Prop} (h:∀ k n ls,(∀ l ∈ ls,P l)→P (.mk k n ls)):∀ ls:List Lv,∀ l ∈ ls,P l
 |[],_,hl=>by cases hl
 |x :: r,l,hl=>by
  rcases List.mem_cons.1 hl with e|e
  ·rw [e]; exact Lv.ind h x
  ·exact Lv.inds h r l e
end
mutual
def LvV (m:Mem):Lv→List Value→Prop
 | .mk k n ls,cs=>i64 k∧i64 n∧∃ a cap,cs=[.int .i64 k,.int .i64 n,.slice a ls.length cap]∧(ls.length ≤ cap∧ls.length ≤ 3518437208780)∧(ls=[]∨∃ b off,a=some ⟨b,off,none⟩∧LvsV m ls b off)
def LvsV (m:Mem):List Lv→Nat→Nat→Prop
 |[],_,_=>True
 |l :: r,b,off=>(∃ cs,RdN m b off cs∧LvV m l cs)∧LvsV m r b (off + 3)
end
mutual
theorem LvV.mono {m m':Mem} (hle:Mem.le m m'):∀ {l:Lv} {cs:List Value},LvV m l cs→LvV m' l cs
 | .mk k n ls,cs,h=>by
  simp only [LvV] at h ⊢
  obtain ⟨h1,h2,a,cap,h3,h4,h5⟩:=h
  refine ⟨h1,h2,a,cap,h3,h4,?_⟩
  rcases h5 with h5|⟨b,off,h6,h7⟩
  ·exact .inl h5
  ·exact .inr ⟨b,off,h6,LvsV.mono hle h7⟩
theorem LvsV.mono {m m':Mem} (hle:Mem.le m m'):∀ {ls:List Lv} {b off:Nat},LvsV m ls b off→LvsV m' ls b off
 |[],_,_,_=>trivial
 |l :: r,b,off,h=>by
  simp only [LvsV] at h ⊢
  obtain ⟨⟨cs,h1,h2⟩,h3⟩:=h
  exact ⟨⟨cs,h1.mono hle,LvV.mono hle h2⟩,LvsV.mono hle h3⟩
end
theorem LvsV.at {m:Mem}:∀ {ls:List Lv} {b off i:Nat} {l:Lv},LvsV m ls b off→ls[i]? = some l→∃ cs,RdN m b (off + i * 3) cs∧LvV m l cs
 |[],_,_,_,_,_,h=>by simp at h
 |x :: r,b,off,0,l,h,e=>by
  simp only [List.getElem?_cons_zero,Option.some.injEq] at e
  subst e
  simpa [LvsV] using h.1
 |x :: r,b,off,i + 1,l,h,e=>by
  simp only [List.getElem?_cons_succ] at e
  simp only [LvsV] at h
  have:=LvsV.at h.2 e
  have he:off + 3 + i * 3=off + (i + 1) * 3:=by omega
  rwa [he] at this
mutual
def j1r:Lv→Int→Int
 | .mk _ _ ls,left=>j0u ls (left - 1)
def j0u:List Lv→Int→Int
 |[],left=>left
 |l :: r,left=>if left < 0 then left else j0u r (j1r l left)
end
mutual
theorem j4H:∀ (l:Lv) (left:Int),0 ≤ left→-1 ≤ j1r l left∧j1r l left ≤ left
 | .mk _ _ ls,left,h=>by
  simp only [j1r]
  have:=j3G ls (left - 1) (by omega)
  omega
theorem j3G:∀ (ls:List Lv) (left:Int),-1 ≤ left→-1 ≤ j0u ls left∧j0u ls left ≤ left
 |[],left,h=>by simp only [j0u]; omega
 |l :: r,left,h=>by
  simp only [j0u]
  split
  ·omega
  ·have h1:=j4H l left (by omega)
   have h2:=j3G r (j1r l left) (by omega)
   omega
end
theorem j2V (ls:List Lv) (left:Int) (h:left < 0):j0u ls left=left:=by
 cases ls <;> simp [j0u,h]
theorem take_snoc' {α:Type} {l:List α} {i:Nat} {x:α} (h:l[i]? = some x):l.take (i + 1)=l.take i ++ [x]:=by
 obtain ⟨h1,h2⟩:=List.getElem?_eq_some_iff.1 h
 rw [List.take_succ_eq_append_getElem h1,h2]
theorem drop_at {α:Type} {l:List α} {i:Nat} {x:α} (h:l[i]? = some x):l.drop i=x :: l.drop (i + 1):=by
 obtain ⟨h1,h2⟩:=List.getElem?_eq_some_iff.1 h
 rw [List.drop_eq_getElem_cons h1,h2]
def Lv.kind:Lv→Int | .mk k _ _=>k
def Lv.num:Lv→Int | .mk _ n _=>n
def Lv.args:Lv→List Lv | .mk _ _ ls=>ls
def jd8 (k:Int):Int:=if k=1∨k=2 then 0 else if k=3 then 1 else if k=4∨k=5 then 2 else -1
def j5g (l:Lv):Int:=64 - max (j1r l 64) (-1)
def j8k:Lv→Int→Bool
 | .mk k n ls,p=>if (ls.length:Int)=jd8 k then (if k=1 then decide (0 ≤ n∧n ≤ 100) else if k=2 then decide (0 ≤ n∧n < p) else decide (n=0)) else false
mutual
def allF:Lv→Int→Bool
 | .mk k n ls,p=>j8k (.mk k n ls) p && j3A ls p
def j3A:List Lv→Int→Bool
 |[],_=>true
 |l :: r,p=>allF l p && j3A r p
end
def j0w (l:Lv) (p:Int):Bool:=decide (0 ≤ p) && (decide (p ≤ 4) && (decide (j5g l ≤ 64) && allF l p))
theorem jgs (a b:Int):(if a < b then b else a)=max a b:=by
 by_cases h:a < b
 ·rw [if_pos h]; omega
 ·rw [if_neg h]; omega
theorem LvV.open {m:Mem} {l:Lv} {cs:List Value} (h:LvV m l cs):∃ k n ls a cap,l = .mk k n ls∧cs=[.int .i64 k,.int .i64 n,.slice a ls.length cap]∧i64 k∧i64 n∧ls.length ≤ 3518437208780 ∧
  (∀ i x,ls[i]? = some x→∃ b off k1 n1 l1 a1 cap1,a=some ⟨b,off,none⟩∧x = .mk k1 n1 l1∧RdN m b (off + i * 3) [.int .i64 k1,.int .i64 n1,.slice a1 l1.length cap1]∧LvV m x [.int .i64 k1,.int .i64 n1,.slice a1 l1.length cap1]):=by
 obtain ⟨k,n,ls⟩:=l
 have h0:=h
 simp only [LvV] at h
 obtain ⟨h1,h2,a,cap,rfl,h4,h5⟩:=h
 refine ⟨k,n,ls,a,cap,rfl,rfl,h1,h2,h4.2,fun i x hx=>?_⟩
 obtain ⟨b,off,rfl,hb⟩:=h5.resolve_left (fun e=>by rw [e] at hx; simp at hx)
 obtain ⟨cc,hrd,hlv⟩:=LvsV.at hb hx
 obtain ⟨k1,n1,l1⟩:=x
 have hlv':=hlv
 simp only [LvV] at hlv'
 obtain ⟨_,_,a1,cap1,rfl,_,_⟩:=hlv'
 exact ⟨b,off,k1,n1,l1,a1,cap1,rfl,rfl,hrd,hlv⟩
def joD (k n:Int) (vs:List Int) (f:Int→Int):Int :=
 if k=1 then n else if k=2 then f n else if k=3 then vs.getD 0 0 + 1 else if k=5∧vs.getD 1 0=0 then 0 else max (vs.getD 0 0) (vs.getD 1 0)
mutual
def valF:Lv→(Int→Int)→Int
 | .mk k n ls,f=>joD k n (jpQ ls f) f
def jpQ:List Lv→(Int→Int)→List Int
 |[],_=>[]
 |l :: r,f=>valF l f :: jpQ r f
end
mutual
def j0C:Lv→Nat
 | .mk _ _ ls=>j0c ls + 1
def j0c:List Lv→Nat
 |[]=>0
 |l :: r=>j0C l + j0c r
end
theorem jdh:∀ {ls:List Lv} {i:Nat} {x:Lv},ls[i]? = some x→j0C x ≤ j0c ls
 |[],_,_,h=>by simp at h
 |l :: r,0,x,h=>by simp at h; subst h; simp only [j0c]; omega
 |l :: r,i + 1,x,h=>by
  have:=jdh (ls:=r) (i:=i) (x:=x) (by simpa using h)
  simp only [j0c]; omega
theorem jcU {k n:Int} {ls:List Lv} {i q:Nat} {x:Lv} (h:j0C (.mk k n ls) ≤ q) (hx:ls[i]? = some x):j0C x ≤ q:=by
 have:=jdh hx
 simp only [j0C] at h; omega
theorem j4w:∀ {ls:List Lv} {i:Nat} {x:Lv} {p:Int},j3A ls p=true→ls[i]? = some x→allF x p=true
 |[],_,_,_,_,h=>by simp at h
 |l :: r,0,x,p,h,e=>by simp at e; subst e; simp only [j3A,Bool.and_eq_true] at h; exact h.1
 |l :: r,i + 1,x,p,h,e=>by
  simp only [j3A,Bool.and_eq_true] at h
  exact j4w h.2 (by simpa using e)
theorem j7n {k n p:Int} {ls:List Lv} {i:Nat} {x:Lv} (h:allF (.mk k n ls) p=true) (hx:ls[i]? = some x):allF x p=true:=by
 simp only [allF,Bool.and_eq_true] at h
 exact j4w h.2 hx
theorem j8C {k n p:Int} {ls:List Lv} (h:allF (.mk k n ls) p=true):j8k (.mk k n ls) p=true:=by
 simp only [allF,Bool.and_eq_true] at h
 exact h.1
theorem j5w {k n p:Int} {ls:List Lv} (h:j8k (.mk k n ls) p=true) :
  (k=1∧ls=[]∧0 ≤ n∧n ≤ 100)∨(k=2∧ls=[]∧0 ≤ n∧n < p)∨(k=3∧n=0∧∃ x,ls=[x])∨((k=4∨k=5)∧n=0∧∃ x y,ls=[x,y]):=by
 simp only [j8k] at h
 split at h
 ·rename_i hw
  unfold jd8 at hw
  by_cases h1:k=1
  ·subst h1
   simp at h hw
   exact .inl ⟨rfl,hw,h⟩
  ·by_cases h2:k=2
   ·subst h2
    simp at h hw
    exact .inr (.inl ⟨rfl,hw,h⟩)
   ·rw [if_neg (by omega)] at hw
    simp only [h1,h2,if_false,decide_eq_true_eq] at h
    by_cases h3:k=3
    ·subst h3
     simp at hw
     refine .inr (.inr (.inl ⟨rfl,h,?_⟩))
     match ls,hw with
     |[x],_=>exact ⟨x,rfl⟩
     |[],hw=>simp at hw
     |_ :: _ :: _,hw=>simp at hw; omega
    ·rw [if_neg h3] at hw
     by_cases h4:k=4∨k=5
     ·rw [if_pos h4] at hw
      refine .inr (.inr (.inr ⟨h4,h,?_⟩))
      match ls,hw with
      |[x,y],_=>exact ⟨x,y,rfl⟩
      |[],hw=>simp at hw
      |[_],hw=>simp at hw
      |_ :: _ :: _ :: _,hw=>simp at hw; omega
     ·rw [if_neg h4] at hw
      omega
 ·cases h
theorem jlo {k n:Int} {ls:List Lv} {p:Int} (h:allF (.mk k n ls) p=true) (hk:k=2):0 ≤ n∧n < p:=by
 rcases j5w (j8C h) with ⟨h1,_⟩|⟨_,_,h2⟩|⟨h1,_⟩|⟨h1,_⟩ <;> omega
theorem jmY {k n:Int} {ls:List Lv} {p:Int} (h:allF (.mk k n ls) p=true) (hk:k=3):∃ x,ls=[x]:=by
 rcases j5w (j8C h) with ⟨h1,_⟩|⟨h1,_⟩|⟨_,_,h2⟩|⟨h1,_⟩
 ·omega
 ·omega
 ·exact h2
 ·omega
theorem joI {k n:Int} {ls:List Lv} {p:Int} (h:allF (.mk k n ls) p=true) (h1:k ≠ 1) (h2:k ≠ 2) (h3:k ≠ 3):∃ x y,ls=[x,y]:=by
 rcases j5w (j8C h) with ⟨e,_⟩|⟨e,_⟩|⟨e,_⟩|⟨_,_,e⟩
 ·omega
 ·omega
 ·omega
 ·exact e
def IntsV (m:Mem) (vs:List Int) (sv:Value):Prop:=∃ a cap,sv = .slice a vs.length cap∧vs.length ≤ cap∧vs.length ≤ 140737488355328∧∀ i v,vs[i]? = some v→∃ b off,a=some ⟨b,off,none⟩∧Rd m b (off + i * 1) (.int .i64 v)
theorem IntsV.mono {m m':Mem} {vs:List Int} {sv:Value} (h:IntsV m vs sv) (hle:Mem.le m m'):IntsV m' vs sv:=by
 obtain ⟨a,cap,h1,h2,h3,h4⟩:=h
 exact ⟨a,cap,h1,h2,h3,fun i v hv=>by obtain ⟨b,off,h5,h6⟩:=h4 i v hv; exact ⟨b,off,h5,h6.mono hle⟩⟩
def jgL (vs:List Int) (i:Int):Int:=match vs[i.toNat]? with
 |some v=>min (max v 0) 1048576
 |none=>0
def jqE (vs:List Int) (g i:Nat):Int:=if i < g then jgL vs i else 0
def jqZ (l:Lv) (vs:List Int):Int:=if j0w l 4=true then valF l (jgL vs) else 0
mutual
theorem jdM:∀ (l:Lv) (left:Int),0 ≤ left→((j0C l:Int) ≤ left→j1r l left=left - j0C l)∧(left < (j0C l:Int)→j1r l left = -1)
 | .mk k n ls,left,h=>by
  have e:j0C (.mk k n ls)=j0c ls + 1:=by simp [j0C]
  have h1:=j7r ls (left - 1) (by omega)
  have e2:j1r (.mk k n ls) left=j0u ls (left - 1):=by simp [j1r]
  rw [e,e2]
  refine ⟨fun h2=>?_,fun h2=>?_⟩
  ·rw [h1.1 (by omega)]; omega
  ·by_cases h3:ls=[]
   ·subst h3
    simp [j0c] at h2
    simp [j0u]
    omega
   ·exact h1.2 (by omega) h3
theorem j7r:∀ (ls:List Lv) (left:Int),-1 ≤ left→((j0c ls:Int) ≤ left→j0u ls left=left - j0c ls)∧(left < (j0c ls:Int)→ls ≠ []→j0u ls left = -1)
 |[],left,h=>by simp [j0u,j0c]
 |l :: r,left,h=>by
  have hp:1 ≤ j0C l:=by cases l; simp [j0C]
  have e:j0c (l :: r)=j0C l + j0c r:=by simp [j0c]
  rw [e]
  by_cases h0:left < 0
  ·have e2:j0u (l :: r) left=left:=by simp [j0u,h0]
   rw [e2]
   exact ⟨fun h2=>by omega,fun _ _=>by omega⟩
  ·have e2:j0u (l :: r) left=j0u r (j1r l left):=by simp [j0u,h0]
   have h1:=jdM l left (by omega)
   rw [e2]
   by_cases h3:(j0C l:Int) ≤ left
   ·rw [h1.1 h3]
    have h4:=j7r r (left - j0C l) (by omega)
    refine ⟨fun h2=>by rw [h4.1 (by omega)]; omega,fun h2 _=>?_⟩
    by_cases h5:r=[]
    ·subst h5
     simp [j0c] at h2
     omega
    ·exact h4.2 (by omega) h5
   ·rw [h1.2 (by omega),j2V _ _ (by omega)]
    exact ⟨fun h2=>by omega,fun _ _=>rfl⟩
end
theorem j6s (l:Lv):j5g l=min (j0C l:Int) 65:=by
 unfold j5g
 have h:=jdM l 64 (by omega)
 by_cases h1:(j0C l:Int) ≤ 64
 ·rw [h.1 h1]; omega
 ·rw [h.2 (by omega)]; omega
theorem j9V {l:Lv} {p:Int} (h:j0w l p=true):allF l p=true:=by
 simp only [j0w,Bool.and_eq_true] at h
 exact h.2.2.2
theorem jeR {l:Lv} {p:Int} (h:j0w l p=true):j0C l ≤ 64:=by
 simp only [j0w,Bool.and_eq_true,decide_eq_true_eq,j6s] at h
 omega
theorem j7o {l:Lv} {p:Int} (h:j0w l p=true):j0C l ≤ 100000:=by
 have:=jeR h
 omega
structure Fm where
 num:Int
 off:Nat→Int
def Fm.cells (f:Fm):List Value:=[.int .i64 f.num,.int .i64 (f.off 0),.int .i64 (f.off 1),.int .i64 (f.off 2),.int .i64 (f.off 3)]
def Fm.v (f:Fm):Value:=.agg #[.int .i64 f.num,.int .i64 (f.off 0),.int .i64 (f.off 1),.int .i64 (f.off 2),.int .i64 (f.off 3)]
def Fm.ok (f:Fm) (q:Int):Prop:=(-1 ≤ f.num∧f.num ≤ q)∧∀ j,-1 ≤ f.off j∧f.off j ≤ q
def jr7 (g:Nat) (F G:Nat→Int) (j:Nat):Int:=if j < g then G j else F j
def j2b (n:Int):Fm:=⟨n,fun _=>-1⟩
def rise (x:Int):Int:=if x = -1 then -1 else x + 1
def j9Q (f:Fm):Fm:=⟨rise f.num,fun j=>rise (f.off j)⟩
def jar (f g:Fm):Fm:=⟨max f.num g.num,fun j=>max (f.off j) (g.off j)⟩
def ja3 (f:Fm):Nat→Int
 |0=>f.num
 |g + 1=>if f.off g = -1 then ja3 f g else max (ja3 f g) (f.off g + 1)
def jlm (f:Fm):Int:=ja3 f 4
def j6H (f g:Fm):Nat→Bool
 |0=>true
 |i + 1=>j6H f g i && decide (f.off i ≤ g.off i)
def jaE (f g:Fm):Bool:=j6H f g 4 && decide (f.num ≤ jlm g)
def jow (f:Fm):Bool:=decide (f.num=0) && (decide (f.off 0 = -1) && (decide (f.off 1 = -1) && (decide (f.off 2 = -1) && decide (f.off 3 = -1))))
def bit (z n:Int):Int:=z / 2 ^ n.toNat % 2
def j6L (z n:Int):Fm:=if bit z n=0 then ⟨-1,fun j=>if (j:Int)=n then 0 else -1⟩ else j2b 0
def j4f (k n:Int) (fs:List Fm) (z:Int):Fm :=
 if k=1 then j2b n else if k=2 then j6L z n else if k=3 then j9Q (fs.getD 0 (j2b 0)) else if k=5∧jow (fs.getD 1 (j2b 0))=true then fs.getD 1 (j2b 0) else jar (fs.getD 0 (j2b 0)) (fs.getD 1 (j2b 0))
mutual
def j1U:Lv→Int→Fm
 | .mk k n ls,z=>j4f k n (jgg ls z) z
def jgg:List Lv→Int→List Fm
 |[],_=>[]
 |l :: r,z=>j1U l z :: jgg r z
end
theorem je8 {n:Int} {x:Lv} {z:Int}:j1U (.mk 3 n [x]) z=j9Q (j1U x z):=by simp [j1U,jgg,j4f]
theorem j6I {k n:Int} {x y:Lv} {z:Int} (h1:¬ k=1) (h2:¬ k=2) (h3:¬ k=3):j1U (.mk k n [x,y]) z=if k=5∧jow (j1U y z)=true then j1U y z else jar (j1U x z) (j1U y z):=by simp [j1U,jgg,j4f,h1,h2,h3]
theorem jgN (l:Lv):∀ z:Int,allF l 4=true→(j1U l z).ok (100 + j0C l):=by
 induction l using Lv.ind with
 |_ k n ls ih =>
  intro z hall
  rcases j5w (j8C hall) with ⟨rfl,rfl,h1⟩|⟨rfl,rfl,h1⟩|⟨rfl,rfl,x,rfl⟩|⟨hk,rfl,x,y,rfl⟩
  ·simp [j1U,j4f,j2b,Fm.ok]; omega
  ·have e:j1U (.mk 2 n []) z=j6L z n:=by simp [j1U,j4f]
   rw [e]
   unfold j6L
   ·split
    ·refine ⟨by simp; omega,fun j=>?_⟩
     simp only
     split <;> omega
    ·exact ⟨by simp [j2b]; omega,fun j=>by simp [j2b]; omega⟩
  ·have h:=ih x (by simp) z (j7n hall (i:=0) rfl)
   rw [je8]
   have hs:j0C (.mk 3 0 [x])=j0C x + 1:=by simp [j0C,j0c]
   rw [hs]
   refine ⟨?_,fun j=>?_⟩
   ·have:=h.1
    simp only [j9Q,rise]
    split <;> omega
   ·have:=h.2 j
    simp only [j9Q,rise]
    split <;> omega
  ·have hx:=ih x (by simp) z (j7n hall (i:=0) rfl)
   have hy:=ih y (by simp) z (j7n hall (i:=1) rfl)
   rw [j6I (by omega) (by omega) (by omega)]
   have hs:j0C (.mk k 0 [x,y])=j0C x + j0C y + 1:=by simp [j0C,j0c]
   rw [hs]
   split
   ·exact ⟨by have:=hy.1; omega,fun j=>by have:=hy.2 j; omega⟩
   ·refine ⟨by have:=hx.1; have:=hy.1; simp only [jar]; omega,fun j=>by have:=hx.2 j; have:=hy.2 j; simp only [jar]; omega⟩
def jes (a b:Lv):Nat→Bool
 |0=>true
 |z + 1=>jes a b z && jaE (j1U a z) (j1U b z)
def leqF (a b:Lv):Bool:=j0w a 4 && (j0w b 4 && jes a b 16)
theorem jfP {a b:Lv} {i:Nat} (hi:i < 16) (h:jaE (j1U a i) (j1U b i)=false):jes a b 16=false:=by
 have key:∀ g,i < g→jes a b g=false:=by
  intro g
  induction g with
  |zero=>intro h'; omega
  |succ g ih =>
   intro hg
   by_cases e:i=g
   ·subst e; simp [jes,h]
   ·simp [jes,ih (by omega)]
 exact key 16 hi
theorem jpK {z:Int} {q:Nat} (h:0 ≤ z):0 ≤ z / 2 ^ q:=Int.ediv_nonneg h (Int.le_of_lt (Int.pow_pos (by omega)))
theorem jqb {z:Int} {q:Nat} (h:0 ≤ z) (h1:z < 16):z / 2 ^ q < 64:=by
 have h2:z / 2 ^ q ≤ z:=Int.ediv_le_self _ h
 omega
theorem jps {f:Fm} {q:Nat} (h:f.ok (100 + q)) (hq:q ≤ 100000):f.ok 1000000:=⟨by have:=h.1; omega,fun j=>by have:=h.2 j; omega⟩
def LvsS (m:Mem) (ls:List Lv) (sv:Value):Prop:=∃ a cap,sv = .slice a ls.length cap∧ls.length ≤ cap∧ls.length ≤ 3518437208780∧(ls=[]∨∃ b off,a=some ⟨b,off,none⟩∧LvsV m ls b off)
theorem LvsS.mono {m m':Mem} {ls:List Lv} {sv:Value} (h:LvsS m ls sv) (hle:Mem.le m m'):LvsS m' ls sv:=by
 obtain ⟨a,cap,h1,h2,h3,h4⟩:=h
 refine ⟨a,cap,h1,h2,h3,?_⟩
 rcases h4 with h4|⟨b,off,h5,h6⟩
 ·exact .inl h4
 ·exact .inr ⟨b,off,h5,LvsV.mono hle h6⟩
theorem LvsS.open {m:Mem} {ls:List Lv} {sv:Value} (h:LvsS m ls sv):∃ a cap,sv = .slice a ls.length cap∧ls.length ≤ cap∧ls.length ≤ 3518437208780 ∧
  (∀ i x,ls[i]? = some x→∃ b off k1 n1 l1 a1 cap1,a=some ⟨b,off,none⟩∧x = .mk k1 n1 l1∧RdN m b (off + i * 3) [.int .i64 k1,.int .i64 n1,.slice a1 l1.length cap1]∧LvV m x [.int .i64 k1,.int .i64 n1,.slice a1 l1.length cap1]):=by
 obtain ⟨a,cap,h1,h2,h3,h5⟩:=h
 refine ⟨a,cap,h1,h2,h3,fun i x hx=>?_⟩
 obtain ⟨b,off,rfl,hb⟩:=h5.resolve_left (fun e=>by rw [e] at hx; simp at hx)
 obtain ⟨cc,hrd,hlv⟩:=LvsV.at hb hx
 obtain ⟨k1,n1,l1⟩:=x
 have hlv':=hlv
 simp only [LvV] at hlv'
 obtain ⟨_,_,a1,cap1,rfl,_,_⟩:=hlv'
 exact ⟨b,off,k1,n1,l1,a1,cap1,rfl,rfl,hrd,hlv⟩
theorem LvsS.tail {m:Mem} {x:Lv} {r:List Lv} {b off cap:Nat} (h:LvsS m (x :: r) (.slice (some ⟨b,off,none⟩) (x :: r).length cap)) (hr:cap ≠ 1):LvsS m r (.slice (some ⟨b,if cap=1 then off else off + 1 * 3,none⟩) ((x :: r).length - 1) (cap - 1)):=by
 obtain ⟨a,c,h1,h2,h3,h4⟩:=h
 simp only [Value.slice.injEq] at h1
 obtain ⟨rfl,_,rfl⟩:=h1
 obtain ⟨b',off',e,h5⟩:=h4.resolve_left (by simp)
 cases e
 simp only [LvsV] at h5
 rw [if_neg hr]
 have e:(x :: r).length - 1=r.length:=by simp
 rw [e]
 simp only [List.length_cons] at h2 h3
 exact ⟨_,_,rfl,by omega,by omega,.inr ⟨b,off + 1 * 3,rfl,h5.2⟩⟩
def LvAll (m:Mem):List Lv→List (List Value)→Prop
 |[],[]=>True
 |l :: ls,c :: cs=>LvV m l c∧LvAll m ls cs
 |_,_=>False
theorem LvAll.mono {m m':Mem} (hle:Mem.le m m'):∀ {ls:List Lv} {cs:List (List Value)},LvAll m ls cs→LvAll m' ls cs
 |[],[],_=>trivial
 |_ :: _,_ :: _,h=>⟨h.1.mono hle,LvAll.mono hle h.2⟩
 |[],_ :: _,h=>h.elim
 |_ :: _,[],h=>h.elim
theorem LvAll.snoc {m:Mem}:∀ {ls:List Lv} {cs:List (List Value)} {l:Lv} {c:List Value},LvAll m ls cs→LvV m l c→LvAll m (ls ++ [l]) (cs ++ [c])
 |[],[],_,_,_,h=>⟨h,trivial⟩
 |_ :: _,_ :: _,_,_,h,h'=>⟨h.1,LvAll.snoc h.2 h'⟩
 |[],_ :: _,_,_,h,_=>h.elim
 |_ :: _,[],_,_,h,_=>h.elim
theorem LvV.len3 {m:Mem} {l:Lv} {c:List Value} (h:LvV m l c):c.length=3:=by
 obtain ⟨k,n,ls,a,cap,rfl,rfl,_⟩:=h.open
 rfl
theorem LvAll.flat {m:Mem} {b:Nat}:∀ {ls:List Lv} {cs:List (List Value)} {off:Nat},LvAll m ls cs→RdN m b off cs.flatten→LvsV m ls b off
 |[],[],_,_,_=>trivial
 |l :: ls,c :: cs,off,h,hr=>by
  have h3:=h.1.len3
  refine ⟨⟨c,fun j v hj=>hr j v ?_,h.1⟩,LvAll.flat h.2 fun j v hj=>?_⟩
  ·rw [List.flatten_cons,List.getElem?_append_left (List.getElem?_eq_some_iff.1 hj).1]; exact hj
  ·have:=hr (3 + j) v (by rw [List.flatten_cons,List.getElem?_append_right (by omega),h3]; simpa using hj)
   rwa [← Nat.add_assoc] at this
 |[],_ :: _,_,h,_=>h.elim
 |_ :: _,[],_,h,_=>h.elim
theorem LvAll.made {m:Mem} {ls:List Lv} {cs:List (List Value)} {a:Option Addr} (h:LvAll m ls cs) (hr:RowAt m a cs.flatten):ls=[]∨∃ b off,a=some ⟨b,off,none⟩∧LvsV m ls b off:=by
 rcases hr with hr|⟨b,rfl,hr⟩
 ·left
  match ls,cs,h with
  |[],_,_=>rfl
  |l :: ls,c :: cs,h =>
   have h3:=h.1.len3
   rw [List.flatten_cons] at hr
   simp at hr
   rw [hr.1] at h3
   simp at h3
 ·exact .inr ⟨b,0,rfl,h.flat hr⟩
def jc8 (k n:Int) (ls:List Lv) (bys:List Lv):Lv:=if k=2 then bys.getD n.toNat (.mk 0 0 []) else .mk k n ls
mutual
def j2h:Lv→List Lv→Lv
 | .mk k n ls,bys=>jc8 k n (jaC ls bys) bys
def jaC:List Lv→List Lv→List Lv
 |[],_=>[]
 |l :: r,bys=>j2h l bys :: jaC r bys
end
def j5m (k n:Int) (s:Int) (bys:List Lv):Int:=if k=2 then j5g (bys.getD n.toNat (.mk 0 0 [])) else 1 + s
mutual
def j3m:Lv→List Lv→Int
 | .mk k n ls,bys=>j5m k n (j1M ls bys) bys
def j1M:List Lv→List Lv→Int
 |[],_=>0
 |l :: r,bys=>j3m l bys + j1M r bys
end
def j6i:List Lv→Bool
 |[]=>true
 |l :: r=>j0w l 4 && j6i r
def InstF (l:Lv) (bys:List Lv):Option Lv:=if j0w l bys.length=true then (if j6i bys=true then (if j3m l bys ≤ 64 then some (j2h l bys) else none) else none) else none
theorem jds (l:Lv):1 ≤ j5g l∧j5g l ≤ 65:=by
 have h:1 ≤ j0C l:=by cases l; simp [j0C]
 rw [j6s]; omega
mutual
theorem jdm:∀ (l:Lv) (bys:List Lv),1 ≤ j3m l bys∧j3m l bys ≤ 65 * j0C l
 | .mk k n ls,bys=>by
  have h:=j2L ls bys
  have h2:=jds (bys.getD n.toNat (.mk 0 0 []))
  have e:j3m (.mk k n ls) bys=j5m k n (j1M ls bys) bys:=by simp [j3m]
  have e2:j0C (.mk k n ls)=j0c ls + 1:=by simp [j0C]
  rw [e,e2]
  unfold j5m
  split <;> omega
theorem j2L:∀ (ls:List Lv) (bys:List Lv),0 ≤ j1M ls bys∧j1M ls bys ≤ 65 * j0c ls
 |[],bys=>by simp [j1M,j0c]
 |l :: r,bys=>by
  have h1:=jdm l bys
  have h2:=j2L r bys
  have e:j1M (l :: r) bys=j3m l bys + j1M r bys:=by simp [j1M]
  have e2:j0c (l :: r)=j0C l + j0c r:=by simp [j0c]
  rw [e,e2]; omega
end
theorem j5U (ls:List Lv) (i:Nat):j0c (ls.take i) ≤ j0c ls:=by
 induction ls generalizing i with
 |nil=>simp [j0c]
 |cons x r ih =>
  cases i with
  |zero=>simp [j0c]
  |succ i=>simp only [List.take_succ_cons,j0c]; have:=ih i; omega
mutual
def lnF:Lv→Int→Int
 | .mk _ _ ls,q=>min (lnFs ls 1 q) (q + 1)
def lnFs:List Lv→Int→Int→Int
 |[],acc,_=>acc
 |l :: r,acc,q=>if acc ≤ q then lnFs r (acc + lnF l q) q else acc
end
mutual
theorem jjn:∀ (l:Lv) (q:Int),0 ≤ q→lnF l q=min (j0C l:Int) (q + 1)
 | .mk k n ls,q,h=>by
  have h1:=j8R ls 1 q h (by omega)
  have e:lnF (.mk k n ls) q=min (lnFs ls 1 q) (q + 1):=by simp [lnF]
  have e2:j0C (.mk k n ls)=j0c ls + 1:=by simp [j0C]
  rw [e,e2]
  omega
theorem j8R:∀ (ls:List Lv) (acc q:Int),0 ≤ q→1 ≤ acc→min (lnFs ls acc q) (q + 1)=min (acc + j0c ls) (q + 1)
 |[],acc,q,h,ha=>by simp [lnFs,j0c]
 |l :: r,acc,q,h,ha=>by
  have h1:=jjn l q h
  have hp:1 ≤ j0C l:=by cases l; simp [j0C]
  have e2:j0c (l :: r)=j0C l + j0c r:=by simp [j0c]
  rw [e2]
  by_cases hq:acc ≤ q
  ·have e:lnFs (l :: r) acc q=lnFs r (acc + lnF l q) q:=by simp [lnFs,hq]
   have h2:=j8R r (acc + lnF l q) q h (by omega)
   rw [e,h2]
   omega
  ·have e:lnFs (l :: r) acc q=acc:=by simp [lnFs,hq]
   rw [e]
   omega
end
mutual
def jpm:Lv→Lv→Bool
 | .mk k n ls,.mk k' n' ls'=>decide (k=k') && (decide (n=n') && (decide (ls.length=ls'.length) && j1C ls ls'))
def j1C:List Lv→List Lv→Bool
 |[],_=>true
 |_ :: _,[]=>true
 |l :: r,l' :: r'=>jpm l l' && j1C r r'
end
mutual
theorem ji4:∀ l:Lv,jpm l l=true
 | .mk k n ls=>by simp [jpm,j8U ls]
theorem j8U:∀ ls:List Lv,j1C ls ls=true
 |[]=>by simp [j1C]
 |l :: r=>by simp [j1C,ji4 l,j8U r]
end
def pts (i:Nat):Int:=[0,1,1000].getD i 0
def pt (i j k m:Nat):List Int:=[pts i,pts j,pts k,pts m]
def leAt (a b:Lv) (i j k m:Nat):Bool:=decide (valF a (jgL (pt i j k m)) ≤ valF b (jgL (pt i j k m)))
def all3 (g:Nat) (p:Nat→Bool):Bool:=match g with
 |0=>true
 |g + 1=>all3 g p && p g
def leqR (a b:Lv):Bool:=j0w a 4 && (j0w b 4 && all3 3 fun i=>all3 3 fun j=>all3 3 fun k=>all3 3 fun m=>leAt a b i j k m)
end Go.Gw

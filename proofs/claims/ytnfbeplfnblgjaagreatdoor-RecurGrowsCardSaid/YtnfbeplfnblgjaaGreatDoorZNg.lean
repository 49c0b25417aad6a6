/- The plain machine answers with more fuel what it answers with less: so what the kernel reckons is found. Plain lemmas, no statement of the seat. -/
import Derived.Test.YtnfbeplfnblgjaaGreatDoorZVc
import Derived.Test.YtnfbeplfnblgjaaGreatDoorChecked
set_option linter.all false
set_option maxRecDepth 100000
namespace Go.Am
open Go Go.Hb
open Go.Gw (tk tf tz tsl tar tpl isAggD callable looks deps statOk)
structure Ev.le (e e':Ev):Prop where
 call:∀{f a st r},e.call f a st=some r→e'.call f a st=some r
 loop:∀{ks k0 c s r},e.loop ks k0 c s=some r→e'.loop ks k0 c s=some r
 yield:∀{a st r},e.yield a st=some r→e'.yield a st=some r
section
variable{C:Cfg}{e e':Ev}
variable{r:AEnd×Sto}{Q:AEnd→Sto→Prop}{ρ:AEnv}{s s':AS}{ops:Array Oper}{f:FuncId}{π:List Nat}{args rs:List PV}{F:List PV→Sto→Option (AEnd×Sto)}{W:List Row4}{k0:Nat}{o:Op}{v:PV}{s0 sf st st':Sto}
theorem acallM_mono{c c':List PV→Sto→Option (AEnd×Sto)}(h:∀{a st r},c a st=some r→c' a st=some r)(hx:acallM c args π st=some r):acallM c' args π st=some r:=by
 unfold acallM at hx⊢;split at hx
 ·rename_i st0 h1 h2;cases hc:c (args.map (renPV (fun i=>place i 0 π) 8)) st0 with
  |none=>rw[hc] at hx;cases hx
  |some q=>
   rw[hc] at hx
   (try simp only[h1,h2,h hc])
   exact hx
 ·cases hx
theorem acallS_mono(h:e.le e')(hx:acallS C e f args st=some r):acallS C e' f args st=some r:=by
 cases hh:handed C f args st with
 |none=>
  unfold handed at hh;unfold acallS at hx;cases hr:C.raw f<;>simp only[hr] at hh hx
  ·rw[hh] at hx;cases hx
  ·cases hh
 |some q=>
  obtain⟨args',st'⟩:=q;rw[acallS_eq hh] at hx⊢;split at hx
  ·rename_i hp;cases hc:e.call f args' [] with
   |none=>rw[hc] at hx;cases hx
   |some q=>rw[hc] at hx;(try simp only[h.call hc]);exact hx
  ·rename_i hp;exact acallM_mono (fun h1=>h.call h1) hx
theorem sCall_mono(h:e.le e'){g:Operand}{xs:List Operand}{r:AR}(hx:sCall C e ρ st g xs=some r):sCall C e' ρ st g xs=some r:=by
 unfold sCall at hx⊢;split at hx
 ·rename_i f a b vs h1 h2;(try simp only[h1,h2])
  split at hx
  ·rename_i hc;(try simp only[hc])
   cases hh:acallS C e f (a++vs++b) st with
   |none=>rw[hh] at hx;cases hx
   |some q=>rw[hh] at hx;rw[acallS_mono h hh];exact hx
  ·cases hx
 ·cases hx
theorem aS_mono(h:e.le e'){r:AR}(hx:aS C e ρ st o=some r):aS C e' ρ st o=some r:=by
 cases o with
 |call c=>
  obtain⟨callee,xs,ts⟩:=c;cases callee with
  |value g=>exact sCall_mono h hx
  |invoke r m=>exact hx
  |builtin b=>cases b<;>exact hx
 |_=>exact hx
theorem aoper_mono(h:e.le e'){r:AR}(hx:aoper C e ρ st o=some r):aoper C e' ρ st o=some r:=by
 unfold aoper at hx⊢;split at hx
 ·rename_i ha;(try simp only[ha])
  exact aS_mono h hx
 ·rename_i ha;(try simp only[ha])
  split at hx
  ·rename_i v hv;(try simp only[hv]);exact hx
  ·rename_i hv;(try simp only[hv])
   split at hx
   ·rename_i v hk;(try simp only[hk]);exact hx
   ·rename_i hk;(try simp only[hk]);exact aS_mono h hx
theorem aoperY_mono(h:e.le e'){r:AR}(hx:aoperY C e ρ st o=some r):aoperY C e' ρ st o=some r:=by
 unfold aoperY at hx⊢;split at hx
 ·rename_i g xs ts;split at hx
  ·rename_i id hg;(try simp only[hg])
   split at hx
   ·rename_i vs hvs;unfold sYield at hx⊢;split at hx
    ·rename_i vs1 st1 hp;(try simp only[hp])
     cases hh:acallM e.yield (.yl id::vs1) (close st1 64 ((PV.yl id::vs1).flatMap (ids 8)) []).reverse st1 with
     |none=>rw[hh] at hx;cases hx
     |some q=>rw[hh] at hx;rw[acallM_mono (fun h1=>h.yield h1) hh];exact hx
    ·cases hx
   ·cases hx
  ·exact aoper_mono h hx
 ·split at hx
  ·rename_i hq;(try simp only[hq])
   exact aoper_mono h hx
  ·cases hx
theorem aops_mono(h:e.le e'){ops:Array Oper}:∀{l:List Oper}{s:AS}{r:AX×AS},aops C e ops l s=some r→aops C e' ops l s=some r
 |[],s,r,hx=>hx
 |o::l,s,r,hx=>by
  unfold aops at hx⊢;split at hx
  ·rename_i hg;(try simp only[hg])
   cases ho:aoperY C e s.env s.st o.op with
   |none=>rw[ho] at hx;cases hx
   |some q=>
    rw[ho] at hx;rw[aoperY_mono h ho];cases q with
    |val v st=>exact aops_mono h hx
    |unit st=>exact aops_mono h hx
    |pan v st=>exact hx
  ·rename_i hg;(try simp only[hg])
   exact aops_mono h hx
  ·cases hx
theorem pureAct_mono(h:e.le e'):(∀v,pureAct C e ρ o=some v→pureAct C e' ρ o=some v)∧(∀r,pureAct C e ρ o=none→aS C e ρ st o=some r→pureAct C e' ρ o=none):=by
 cases o with
 |call c=>
  obtain⟨callee,xs,ts⟩:=c;cases callee with
  |value g=>
   refine⟨fun v hx=>?_,fun r hx hs=>?_⟩
   ·unfold pureAct at hx⊢;simp only at hx⊢;split at hx
    ·rename_i f a b vs h1 h2;(try simp only[h1,h2])
     split at hx
     ·rename_i hc;(try simp only[hc])
      cases hh:e.call f (a++vs++b) [] with
      |none=>rw[hh] at hx;cases hx
      |some q=>rw[hh] at hx;rw[h.call hh];exact hx
     ·cases hx
    ·cases hx
   ·have hs:sCall C e ρ st g xs.toList=some r:=hs;unfold sCall at hs;unfold pureAct at hx⊢;simp only at hx⊢;split at hs
    ·rename_i f a b vs h1 h2;(try simp only[h1,h2] at hx⊢)
     split
     ·rename_i hc;(try simp only[hc] at hx)
      rw[Bool.and_eq_true] at hc;split at hs
      ·cases hh:e.call f (a++vs++b) [] with
       |none=>
        rw[acallS_eq (handed_pure hc.2)] at hs
        (try simp only[hc.2,hh] at hs)
        cases hs
       |some q=>
        rw[hh] at hx;rw[h.call hh];exact hx
      ·cases hs
     ·rfl
    ·cases hs
  |invoke r m=>exact⟨fun v hx=>hx,fun r hx _=>hx⟩
  |builtin b=>exact⟨fun v hx=>hx,fun r hx _=>hx⟩
 |_=>exact⟨fun v hx=>hx,fun r hx _=>hx⟩
theorem drawOp_mono(h:e.le e'){o:Oper}{r:PV×Sto×DK}(hx:drawOp C e ops o ρ st=some r):drawOp C e' ops o ρ st=some r:=by
 unfold drawOp at hx⊢;split at hx
 ·rename_i hg;(try simp only[hg]);exact hx
 ·rename_i hg;(try simp only[hg])
  split at hx
  ·rename_i v hv;(try simp only[hv]);exact hx
  ·rename_i hv;(try simp only[hv])
   split at hx
   ·rename_i v hk;(try simp only[hk]);exact hx
   ·rename_i hk;(try simp only[hk])
    split at hx
    ·rename_i v hp;(try simp only[(pureAct_mono h (st:=st)).1 v hp])
     exact hx
    ·rename_i hp;split at hx
     ·rename_i v st1 ha;(try simp only[(pureAct_mono h).2 _ hp ha,aS_mono h ha])
      exact hx
     ·rename_i st1 ha;(try simp only[(pureAct_mono h).2 _ hp ha,aS_mono h ha])
      exact hx
     ·cases hx
 ·cases hx
theorem drawRun_mono(h:e.le e'){ops:Array Oper}:∀{l:List Oper}{s:AS}{r:AS×List Tr},drawRun C e ops l s=some r→drawRun C e' ops l s=some r
 |[],s,r,hx=>hx
 |o::l,s,r,hx=>by
  unfold drawRun at hx⊢;split at hx
  ·rename_i v st d hd;(try simp only[drawOp_mono h hd])
   split at hx
   ·rename_i s' l' hr;(try simp only[drawRun_mono h hr])
    exact hx
   ·cases hx
  ·cases hx
theorem comeBack_pan{st1:Sto}(h:comeBack π st (.ret rs) st1=some (.pan v,st')):False:=by
 unfold comeBack at h;split at h
 ·simp only[Option.some.injEq,Prod.mk.injEq] at h;have h1:=h.1;unfold renEnd at h1;split at h1
  ·cases h1
  ·cases h1
 ·cases h
theorem panOp_draw{o:Oper}{r:PV×Sto}(hx:panOp C e ops o ρ st=some r):drawOp C e ops o ρ st=none:=by
 unfold panOp at hx;split at hx
 ·rename_i hg;split at hx
  ·rename_i g xs ts hop;split at hx
   ·rename_i v st1 hs;have hs0:=hs;unfold sCall at hs;split at hs
    ·rename_i f a b vs hgv hxs;split at hs
     ·rename_i hc;have hp:pureAct C e ρ (.call ⟨.value g,xs,ts⟩)=none:=by
       simp only[pureAct,hgv,hxs,hc,Bool.true_and];split
       ·rename_i hp;split
        ·rename_i rs st2 hcall;exfalso;rw[acallS_eq (handed_pure hp)] at hs;simp only[hp,hcall] at hs;cases hpu:endPur (.ret rs) with
         |true=>
          rw[hpu] at hs;cases hs
         |false=>
          rw[hpu] at hs;simp only at hs;cases hcb:comeBack [] st (.ret rs) st2 with
          |none=>rw[hcb] at hs;cases hs
          |some q=>
           obtain⟨q1,q2⟩:=q;rw[hcb] at hs;cases q1 with
           |ret _=>cases hs
           |pan _=>exact comeBack_pan hcb
        ·rfl
       ·rfl
      have h1:aP C.P ρ (.call ⟨.value g,xs,ts⟩)=none:=rfl;have h2:aK C.P ρ st (.call ⟨.value g,xs,ts⟩)=none:=rfl;have h3:aS C e ρ st (.call ⟨.value g,xs,ts⟩)=some (.pan v st1):=hs0;simp only[drawOp,hg,hop,h1,h2,hp,h3]
     ·cases hs
    ·cases hs
   ·cases hx
  ·cases hx
 ·cases hx
theorem panOp_mono(h:e.le e'){o:Oper}{r:PV×Sto}(hx:panOp C e ops o ρ st=some r):panOp C e' ops o ρ st=some r:=by
 unfold panOp at hx⊢;split at hx
 ·rename_i hg;(try simp only[hg])
  split at hx
  ·rename_i g xs ts hop;(try simp only[hop])
   split at hx
   ·rename_i v st1 hs;rw[sCall_mono h hs];exact hx
   ·cases hx
  ·cases hx
 ·cases hx
theorem drawRest_mono(h:e.le e'){ops:Array Oper}{cl:List (List Nat)}{q:Nat}:∀{l:List Oper}{i:Nat}{s:AS}{r:AS×List Tr},drawRest C e ops cl q l i s=some r→drawRest C e' ops cl q l i s=some r
 |[],i,s,r,hx=>hx
 |o::l,i,s,r,hx=>by
  unfold drawRest at hx⊢;split at hx
  ·rename_i hh;(try simp only[hh])
   split at hx
   ·rename_i s' l' hr;(try simp only[drawRest_mono h hr])
    exact hx
   ·cases hx
  ·rename_i hh;(try simp only[hh])
   split at hx
   ·rename_i v st d hd;(try simp only[drawOp_mono h hd])
    split at hx
    ·rename_i s' l' hr;(try simp only[drawRest_mono h hr])
     exact hx
    ·cases hx
   ·cases hx
theorem drawPan_mono(h:e.le e'){ops:Array Oper}{cl:List (List Nat)}:∀{l:List Oper}{i:Nat}{s:AS}{r:PV×Sto×List Tr},drawPan C e ops cl l i s=some r→drawPan C e' ops cl l i s=some r
 |[],i,s,r,hx=>hx
 |o::l,i,s,r,hx=>by
  unfold drawPan at hx⊢;split at hx
  ·rename_i v st d hd;(try simp only[drawOp_mono h hd])
   split at hx
   ·rename_i x st' l' hr;(try simp only[drawPan_mono h hr])
    exact hx
   ·cases hx
  ·split at hx
   ·rename_i v st hp;have hp':=panOp_mono h hp;(try simp only[panOp_draw hp',hp'])
    split at hx
    ·rename_i s' l' hr;(try simp only[drawRest_mono h hr])
     exact hx
    ·cases hx
   ·cases hx
theorem drawPan_run0{ops:Array Oper}{cl:List (List Nat)}:∀{l:List Oper}{i:Nat}{s:AS}{r:PV×Sto×List Tr},drawPan C e ops cl l i s=some r→drawRun C e ops l s=none
 |[],i,s,r,hx=>by simp[drawPan] at hx
 |o::l,i,s,r,hx=>by
  unfold drawPan at hx;unfold drawRun;split at hx
  ·rename_i v st d hd;(try simp only[hd])
   split at hx
   ·rename_i x st' l' hr;(try simp only[drawPan_run0 hr])
   ·cases hx
  ·rename_i hd;(try simp only[hd])
theorem drawEnvs_mono(h:e.le e'){ops:Array Oper}:∀{l:List Oper}{s:AS}{r:AS×List Tr},drawRun C e ops l s=some r→drawEnvs C e' ops l s=drawEnvs C e ops l s
 |[],s,r,hx=>rfl
 |o::l,s,r,hx=>by
  unfold drawRun at hx;unfold drawEnvs;split at hx
  ·rename_i v st d hd;rw[drawOp_mono h hd];split at hx
   ·rename_i s' l' hr;simp only[drawEnvs_mono h hr,hd]
   ·cases hx
  ·cases hx
theorem nextJ_mono(h:e.le e'){ops:Array Oper}{cl:List (List Nat)}{W:List Row4}{K:List Nat}{st:Sto}:∀{js:List Nat}{L L':List (List Nat×Sto)},nextJ C e ops cl W K st js L=some L'→nextJ C e' ops cl W K st js L=some L'
 |[],L,L',hx=>hx
 |i::r,L,L',hx=>by
  unfold nextJ at hx⊢;split at hx
  ·rename_i hb hw;split at hx
   ·rename_i v' st' d' hd;simp only[drawOp_mono h hd];split at hx
    ·rename_i he;split at hx
     ·rename_i L1 h1;exact nextJ_mono h hx
     ·cases hx
    ·cases hx
   ·cases hx
  ·cases hx
  ·exact nextJ_mono h hx
theorem nextL_mono(h:e.le e'){ops:Array Oper}{cl:List (List Nat)}{W:List Row4}:∀{l L L':List (List Nat×Sto)},nextL C e ops cl W l L=some L'→nextL C e' ops cl W l L=some L'
 |[],L,L',hx=>hx
 |x::r,L,L',hx=>by
  unfold nextL at hx⊢;split at hx
  ·rename_i L1 h1;rw[nextJ_mono h h1];exact nextL_mono h hx
  ·cases hx
theorem explore_mono(h:e.le e'){ops:Array Oper}{cl:List (List Nat)}{W:List Row4}{sf:Sto}:∀{q:Nat}{L:List (List Nat×Sto)},explore C e ops cl W sf q L=true→explore C e' ops cl W sf q L=true
 |0,L,hx=>hx
 |q+1,L,hx=>by
  unfold explore at hx⊢;rw[Bool.and_eq_true] at hx⊢;refine⟨hx.1,?_⟩;have h2:=hx.2;split at h2
  ·rename_i L1 h1;rw[nextL_mono h h1];exact explore_mono h h2
  ·cases h2
theorem drawOk2_mono(h:e.le e'){r:AS×List Tr}(hr:drawRun C e ops ops.toList s=some r)(hx:drawOk2 C e ops s s'=true):drawOk2 C e' ops s s'=true:=by
 unfold drawOk2 at hx⊢;rw[drawEnvs_mono h hr];simp only[Bool.and_eq_true] at hx⊢;exact⟨hx.1,hx.2.1,explore_mono h hx.2.2⟩
theorem OrdI.mono(h:e.le e'){I:List Nat→Sto→Prop}(hx:OrdI C e ops W I):OrdI C e' ops W I:=
 ⟨hx.look,fun K st hk j o ρ v d h1 h2 h3=>by
  obtain⟨st',d',a,b⟩:=hx.act K st hk j o ρ v d h1 h2 h3;exact⟨st',d',drawOp_mono h a,b⟩⟩
theorem OrdP.mono(h:e.le e')(hx:OrdP C e ops W s0 sf):OrdP C e' ops W s0 sf:=by
 obtain⟨I,h1,h2,h3⟩:=hx;exact⟨I,h1,h2.mono h,h3⟩
theorem PanP.mono(h:e.le e'){q:Nat}(hx:PanP C e ops W q v s0 sf):PanP C e' ops W q v s0 sf:=by
 obtain⟨I,h1,h2,h3⟩:=hx;exact⟨I,h1,h2.mono h,fun K st hk o ρ u d hw hr=>by
  obtain⟨st',h4,h5⟩:=h3 K st hk o ρ u d hw hr;exact⟨st',panOp_mono h h4,h5⟩⟩
theorem drawOk3_mono(h:e.le e'){r:AS×List Tr}(hr:drawRun C e ops ops.toList s=some r)(hx:drawOk3 C e ops s s'=true):drawOk3 C e' ops s s'=true:=by
 unfold drawOk3 at hx⊢;rw[drawEnvs_mono h hr];have h1:=@of_decide_eq_true _ (_) hx;exact @decide_eq_true _ (_) ⟨h1.1,h1.2.mono h⟩
theorem restEnvs_mono(h:e.le e'){ops:Array Oper}{cl:List (List Nat)}{q:Nat}:∀{l:List Oper}{i:Nat}{s:AS}{r:AS×List Tr},drawRest C e ops cl q l i s=some r→restEnvs C e' ops cl q l i s=restEnvs C e ops cl q l i s
 |[],i,s,r,hx=>rfl
 |o::l,i,s,r,hx=>by
  unfold drawRest at hx;unfold restEnvs;split at hx
  ·rename_i hh;split at hx
   ·rename_i s' l' hr;simp only[hh,restEnvs_mono h hr]
   ·cases hx
  ·rename_i hh;split at hx
   ·rename_i v st d hd;rw[drawOp_mono h hd];split at hx
    ·rename_i s' l' hr;simp only[hh,restEnvs_mono h hr,hd]
    ·cases hx
   ·cases hx
theorem panEnvs_mono(h:e.le e'){ops:Array Oper}{cl:List (List Nat)}:∀{l:List Oper}{i:Nat}{s:AS}{r:PV×Sto×List Tr},drawPan C e ops cl l i s=some r→panEnvs C e' ops cl l i s=panEnvs C e ops cl l i s
 |[],i,s,r,hx=>rfl
 |o::l,i,s,r,hx=>by
  unfold drawPan at hx;unfold panEnvs;split at hx
  ·rename_i v st d hd;rw[drawOp_mono h hd];split at hx
   ·rename_i x st' l' hr;simp only[panEnvs_mono h hr,hd]
   ·cases hx
  ·rename_i hd;split at hx
   ·rename_i v st hp;rw[panOp_draw (panOp_mono h hp)];split at hx
    ·rename_i s' l' hr;simp only[restEnvs_mono h hr,hd]
    ·cases hx
   ·cases hx
theorem panOk3_mono(h:e.le e'){r:PV×Sto×List Tr}(hr:drawPan C e ops (clos [] ops.toList) ops.toList 0 s=some r)(hx:panOk3 C e ops s v st=true):panOk3 C e' ops s v st=true:=by
 unfold panOk3 at hx⊢;rw[panEnvs_mono h hr];have h1:=@of_decide_eq_true _ (_) hx;exact @decide_eq_true _ (_) ⟨h1.1,h1.2.1,h1.2.2.mono h⟩
theorem exec_mono(h:e.le e'):∀{c:Code}{s:AS}{r:AX×AS},exec C e c s=some r→exec C e' c s=some r:=by
 intro c
 induction c with
 |region id ops draw=>
  intro s r hx;(try simp only[exec] at hx⊢)
  split at hx
  ·exact aops_mono h hx
  ·unfold adraw at hx⊢;split at hx
   ·rename_i s' l hr;split at hx
    ·rename_i hk;have hk2:(drawOk ops l||(drawOk2 C e' ops s s'||drawOk3 C e' ops s s'))=true:=by
      rw[Bool.or_eq_true,Bool.or_eq_true] at hk⊢;exact hk.imp (fun x=>x) fun k=>k.imp (drawOk2_mono h hr) (drawOk3_mono h hr)
     simp only[drawRun_mono h hr,hk2];exact hx
    ·cases hx
   ·split at hx
    ·rename_i v st l hp;have hp':=drawPan_mono h hp;(try simp only[drawPan_run0 hp',hp'])
     split at hx
     ·rename_i hk;(try simp only[hk])
      exact hx
     ·rename_i hk;split at hx
      ·rename_i hk3;(try simp only[hk]);(try simp only[panOk3_mono h hp hk3])
       exact hx
      ·cases hx
    ·cases hx
 |seq a b iha ihb=>
  intro s r hx;(try simp only[exec] at hx⊢)
  cases ha:exec C e a s with
  |none=>rw[ha] at hx;cases hx
  |some q=>
   obtain⟨x,s1⟩:=q;rw[ha] at hx;rw[iha ha];cases x with
   |normal=>exact ihb hx
   |_=>exact hx
 |cond c a b iha ihb=>
  intro s r hx;(try simp only[exec] at hx⊢)
  split at hx
  ·rename_i v hv;(try simp only[hv])
   split at hx
   ·exact iha hx
   ·exact ihb hx
  ·cases hx
 |block id c ih=>
  intro s r hx;(try simp only[exec] at hx⊢)
  cases ha:exec C e c s with
  |none=>rw[ha] at hx;cases hx
  |some q=>rw[ha] at hx;rw[ih ha];exact hx
 |loop c _=>intro s r hx;exact h.loop hx
 |rangeFunc f ps a b _ _=>
  intro s r hx;(try simp only[exec] at hx⊢)
  unfold execRange at hx⊢;split at hx
  ·rename_i g xs ys hg;(try simp only[hg])
   split at hx
   ·rename_i hc;(try simp only[hc])
    cases hh:acallS C e g (xs++[.yl s.st.length]++ys) (s.st++[.lp s.env ps.toList a b .ready]) with
    |none=>rw[hh] at hx;cases hx
    |some q=>rw[hh] at hx;rw[acallS_mono h hh];exact hx
   ·cases hx
  ·cases hx
 |_=>intro s r hx;exact hx
theorem execD_mono(h:e.le e'):∀{c:Code}{s:AS}{r:AX×AS×Option PV},execD C e c s=some r→execD C e' c s=some r:=by
 intro c;have plain:∀{c:Code},(∀e s,execD C e c s=match exec C e c s with
  |some (x,s1)=>some (x,s1,none)
  |none=>none)→∀{s:AS}{r:AX×AS×Option PV},execD C e c s=some r→execD C e' c s=some r:=fun{c} hc {s r} hx=>by
  rw[hc] at hx⊢;cases h1:exec C e c s with
  |none=>simp[h1] at hx
  |some q=>
   rw[h1] at hx;rw[exec_mono h h1];exact hx
 induction c with
 |seq a b _ ihb=>
  intro s r hx;simp only[execD] at hx⊢;split at hx
  ·rename_i ops o g hc;(try simp only[hc])
   split at hx
   ·rename_i s1 h1;(try simp only[aops_mono h h1])
    split at hx
    ·rename_i D p q hg;(try simp only[hg])
     cases h2:exec C e b s1 with
     |none=>simp[h2] at hx
     |some q=>
      rw[h2] at hx;rw[exec_mono h h2];exact hx
    ·cases hx
   ·cases hx
  ·rename_i hc;(try simp only[hc])
   cases h1:exec C e a s with
   |none=>simp[h1] at hx
   |some q=>
    obtain⟨x,s1⟩:=q;rw[h1] at hx;rw[exec_mono h h1];cases x with
    |normal=>exact ihb hx
    |_=>exact hx
 |_=>exact plain fun e s=>rfl
theorem dcallF_mono(h:e.le e'){D:FuncId}{v:Option PV}{r:Option PV×Sto}(hx:dcallF C e D args v st=some r):dcallF C e' D args v st=some r:=by
 unfold dcallF at hx⊢;split at hx
 ·rename_i fn hfn;(try simp only[hfn])
  split at hx
  ·rename_i c hc;(try simp only[hc])
   split at hx
   ·rename_i ops d r0 rest hr;(try simp only[hr])
    split at hx
    ·rename_i hb;(try simp only[hb])
     cases h1:aops C e ops r0 ⟨aput (some d) (nilOr v) (argE 0 args),st⟩ with
     |none=>simp[h1] at hx
     |some q=>
      obtain⟨x,s1⟩:=q;rw[h1] at hx;rw[aops_mono h h1];cases x with
      |normal=>
       simp only at hx⊢;cases h2:exec C e rest s1 with
       |none=>simp[h2] at hx
       |some q2=>
        rw[h2] at hx;rw[exec_mono h h2];exact hx
      |_=>exact hx
    ·cases hx
   ·cases hx
  ·cases hx
 ·cases hx
theorem endD_mono(h:e.le e'){fn:Func}{x:AX}{cl:Option PV}(hx:endD C e f fn k0 x s cl=some r):endD C e' f fn k0 x s cl=some r:=by
 cases cl with
 |none=>exact hx
 |some c=>
  simp only[endD] at hx⊢;split at hx
  ·rename_i D p q v hv;(try simp only[hv])
   cases h1:dcallF C e D (p++q) v s.st with
   |none=>simp[h1] at hx
   |some o=>
    rw[h1] at hx;rw[dcallF_mono h h1];exact hx
  ·cases hx
theorem callF_mono(h:e.le e')(hx:callF C e f args st=some r):callF C e' f args st=some r:=by
 unfold callF at hx⊢;split at hx
 ·rename_i F hF;(try simp only[hF]);exact hx
 ·rename_i hF;(try simp only[hF])
  split at hx
  ·rename_i fn hfn;(try simp only[hfn])
   split at hx
   ·rename_i c hc;(try simp only[hc])
    split at hx
    ·rename_i hb;(try simp only[hb])
     split at hx
     ·rename_i hcut;(try simp only[hcut])
      cases hh:exec C e c ⟨argE 0 args,st⟩ with
      |none=>rw[hh] at hx;cases hx
      |some q=>rw[hh] at hx;rw[exec_mono h hh];exact hx
     ·rename_i hcut;(try simp only[hcut])
      cases hh:execD C e c ⟨argE 0 args,st⟩ with
      |none=>rw[hh] at hx;cases hx
      |some q=>
       obtain⟨x,s,cl⟩:=q;rw[hh] at hx;rw[execD_mono h hh];exact endD_mono h hx
    ·cases hx
   ·cases hx
  ·cases hx
theorem loopF_mono(h:e.le e'){ks:List Nat}{c:Code}{r:AX×AS}(hx:loopF C e ks k0 c s=some r):loopF C e' ks k0 c s=some r:=by
 unfold loopF at hx⊢;cases hh:exec C e c s with
 |none=>rw[hh] at hx;cases hx
 |some q=>
  obtain⟨x,s1⟩:=q;rw[hh] at hx;rw[exec_mono h hh];cases x with
  |normal=>
   simp only at hx⊢;split at hx
   ·rename_i ρ hc;(try simp only[hc]);exact h.loop hx
   ·cases hx
  |_=>exact hx
theorem yieldF_mono(h:e.le e')(hx:yieldF C e args st=some r):yieldF C e' args st=some r:=by
 unfold yieldF at hx⊢;split at hx
 ·rename_i id vs;try simp only
  split at hx
  ·rename_i ρ ps a b hst;(try simp only[hst])
   split at hx
   ·rename_i s1 hl he;(try simp only[hl,exec_mono h he])
    split at hx
    ·rename_i ρ1 ps1 a1 b1 h1;(try simp only[h1])
     cases hh:exec C e b ⟨s1.env,s1.st.set id (.lp ρ1 ps1 a1 b1 .busy)⟩ with
     |none=>rw[hh] at hx;cases hx
     |some q=>rw[hh] at hx;rw[exec_mono h hh];exact hx
    ·cases hx
   ·cases hx
  ·cases hx
 ·cases hx
theorem ev_le:∀n,(ev C n).le (ev C (n+1))
 |0=>⟨fun h=>by simp[ev] at h,fun h=>by simp[ev] at h,fun h=>by simp[ev] at h⟩
 |n+1=>⟨fun h=>callF_mono (ev_le n) h,fun h=>loopF_mono (ev_le n) h,fun h=>yieldF_mono (ev_le n) h⟩
theorem ev_call{n:Nat}(h:(ev C n).call f args st=some r):∀{k:Nat},n≤k→(ev C k).call f args st=some r:=fun{k} hk=>by
 induction k with
 |zero=>
  obtain rfl:n=0:=by omega
  exact h
 |succ k ih=>
  rcases Nat.lt_or_ge n (k+1) with h1|h1
  ·exact(ev_le k).call (ih (by omega))
  ·obtain rfl:n=k+1:=by omega
   exact h
theorem finds_of{r:AEnd}(n:Nat)(h:(ev C n).call f args st=some (r,st'))(hq:Q r st'):Finds C f args st Q:=⟨r,st',hq,n,fun _ hk=>ev_call h hk⟩
theorem pf_of(n:Nat)(h:(ev C n).call f args []=some (.ret rs,st')):Pf C f args rs:=finds_of n h rfl
theorem pf_at(hn:C.nat f=some F)(h:F args []=some (.ret rs,st')):Pf C f args rs:=pf_of (st':=st') 1 (by
 show callF C (ev C 0) f args []=_
 unfold callF;rw[hn];exact h)
theorem finds_at{r:AEnd}(hn:C.nat f=some F)(h:F args st=some (r,st'))(hq:Q r st'):Finds C f args st Q:=finds_of 1 (by
 show callF C (ev C 0) f args st=_
 unfold callF;rw[hn];exact h) hq
def natP(F:List PV→Option (List PV))(args:List PV)(st:Sto):Option (AEnd×Sto):=match st with
 |[]=>match F args with
  |some rs=>some (.ret rs,[])
  |none=>none
 |_=>none
theorem pf_nat{F:List PV→Option (List PV)}(hn:C.nat f=some (natP F))(h:F args=some rs):Pf C f args rs:=pf_at hn (by
 unfold natP;rw[h])
theorem does_of{C':Cfg}(hP:C'.P=C.P)(hC:∀n,CallOk C'.P (ev C' n).call)(h:∀args st r st',F args st=some (r,st')→∃n,(ev C' n).call f args st=some (r,st')):DoesOk (CallD C.P f) F:=fun args st r st' hx w m φ μ vs hs hr=>by
 obtain⟨n,hn⟩:=h args st r st' hx;have:=hC n f args st r st' hn w m φ μ vs hs hr;rw[hP] at this;exact this
end
end Go.Am
namespace Go.Proofs.YtnfbeplfnblgjaaGreatDoor
open Go Go.RowKit
theorem jbu(n:Nat)(h0:0<n)(hn:n≤1000000)(w:World):
  Calls Tryz.prog 316 #[.slice none 0 0,.int .i64 n] w fun en w'=>∃cap cs,en=.returned (.slice (some ⟨w.heap.size,0,none⟩) 0 cap)∧w'=w.drew.alloc (.cells cs 25)∧cs.size=cap*5∧cap≤maxLen:=by
 have hw:IntKind.i64.wrap (n:Int)=n:=Gw.wrap_i64 (by unfold Gw.i64;omega)
 have hby:(Tryz.t25).bytes=80:=rfl
 go_enter Tryz.func316,Tryz.ntmps316
 go_wp2
 ·rename_i hc;exfalso;rw[nextslicecap_zero h0] at hc;omega
 ·go_ret
  have hge:=grownCap_ge w n 0 25;have hle:=grownCap_le_maxLen w n 0 25 (by unfold maxLen;omega)
  refine⟨grownCap w n 0 25,_,rfl,rfl,?_,hle⟩;simp only[Array.size_append,size_zeroCells];show n*5+(grownCap w n 0 25-n)*5=_
  omega
open Go.Am Go.Hb in
def jcG:List PV→Sto→Option (AEnd×Sto)
 |[.sl true 0 [],.sc (.int .i64 n)],[]=>match decide (0<n)&&decide (n≤1000000) with
  |true=>some (.ret [.ms 0 0],[.row false 25 5 []])
  |false=>match decide (n=0) with
   |true=>some (.ret [.sl true 0 []],[])
   |false=>none
 |_,_=>none
theorem jaf(w:World):Calls Tryz.prog 316 #[.slice none 0 0,.int .i64 0] w fun en w'=>en=.returned (.slice none 0 0)∧w'=w:=by
 go_enter Tryz.func316,Tryz.ntmps316
 go_wp2
 all_goals
  go_ret
  exact⟨rfl,rfl⟩
open Go.Am Go.Hb in
theorem jcy:DoesOk (CallD Tryz.prog 316) jcG:=fun args st r st' hx w m φ μ vs hs hr=>by
 unfold jcG at hx;split at hx
 ·rename_i n;obtain⟨v1,vs1,rfl,h1,h2⟩:=hr.uncons;obtain⟨v2,vs2,rfl,h3,h4⟩:=h2.uncons;have:vs2=[]:=List.eq_nil_of_length_eq_zero h4.1.symm;subst this;obtain rfl:=h3.sc_eq;cases h1 with
  | @sl _ _ _ _ ad cap b0 off0 g ha hcap hmax hfull hel hrr hnil=>
   obtain rfl:=hfull rfl;obtain rfl:=hnil rfl rfl;simp only[List.length_nil];split at hx
   ·rename_i hb;rw[Bool.and_eq_true,decide_eq_true_eq,decide_eq_true_eq] at hb;cases hx;obtain⟨k,rfl⟩:∃k:Nat,n=k:=⟨n.toNat,by omega⟩
    refine(jbu k (by omega) (by omega) w).mono fun en w' ⟨cap,cs,e1,e2,e3,e4⟩=>?_
    subst e1;subst e2;have hs':Sit ⟨w,m,feetOf μ⟩ m φ μ [] w:=⟨Hb.Good.start (ν:=[]) (by simpa using hs.good),hs.sto,hs.dom⟩
    have hg0:=(hs'.good.drew (w.drawn+1)).new (.cells cs 25);have hg1:Hb.Good ⟨w,m,feetOf μ⟩ (w.drew.alloc (.cells cs 25)) m (.row false (.slice (some ⟨w.heap.size,0,none⟩) 0 cap) 25 5 0 []::μ):=by
     have hg00:Hb.Good ⟨w,m,feetOf μ⟩ (w.drew.alloc (.cells cs 25)) m (.blk w.heap.size (.cells cs 25)::μ):=hg0;exact hg00.turn (w':=w.drew.alloc (.cells cs 25)) rfl rfl rfl (Nat.le_refl _) (fun _ _ _=>rfl) (fun b' o u hf hm=>hg00.sub b' o u hm) (by
       refine⟨rfl,.inr ⟨w.heap.size,cap,cs,(0,0),rfl,heap_alloc_new w.drew _,.inl rfl,Nat.zero_le _,e4,e3,by simp⟩⟩)
      (fun b' hf=>.inl ⟨hf,by simp[Res.lim]⟩)
    obtain⟨hsit,hext⟩:=hs'.push (p:=.row (.slice (some ⟨w.heap.size,0,none⟩) 0 cap) 0 5) (o:=.row false 25 5 []) hg1 ⟨some ⟨w.heap.size,0,none⟩,cap,[],by rw[more_self];rfl,rfl,by omega,⟨rfl,fun i x vs hi=>by simp at hi⟩⟩
    exact⟨m,_,_,hext,hsit,[_],rfl,.cons (.ms (more_self _ _ _) (Nat.le_refl _) (fun _=>rfl) ⟨_,_,_,rfl⟩) .nil⟩
   ·split at hx
    ·rename_i hb;rw[decide_eq_true_eq] at hb;cases hx;subst hb;refine(jaf w).mono fun en w' ⟨e1,e2⟩=>?_
     subst e1;subst e2;have hs':Sit ⟨w',m,feetOf μ⟩ m φ μ [] w':=⟨Hb.Good.start (ν:=[]) (by simpa using hs.good),hs.sto,hs.dom⟩
     exact⟨m,φ,μ,Ext.refl _ _,hs',[_],rfl,.cons (.sl b0 off0 g ha hcap hmax hfull hel hrr hnil) .nil⟩
    ·cases hx
 ·cases hx
end Go.Proofs.YtnfbeplfnblgjaaGreatDoor

/- The plain machine answers with more fuel what it answers with less: so what the kernel reckons is found. Plain lemmas, no statement of the seat. -/
import Derived.Test.YtbnodhcijeaceaaGreatDoorZVc
import Derived.Lib.SlicesCompact
import Derived.Sort.KeysCollected
import Derived.Test.YtbnodhcijeaceaaGreatDoorChecked
set_option linter.all false
set_option maxRecDepth 100000
namespace Go.Am
open Go Go.Hb
open Go.Gw (tk tf tz tsl tar tpl isAggD callable looks deps statOk)
structure Ev.le (e e':Ev):Prop where
 call:∀{f a st r},e.call f a st=some r→e'.call f a st=some r
 loop:∀{ks k0 c s r},e.loop ks k0 c s=some r→e'.loop ks k0 c s=some r
 yield:∀{a st r},e.yield a st=some r→e'.yield a st=some r
section
variable{C:Cfg}{e e':Ev}
variable{r:AEnd×Sto}{Q:AEnd→Sto→Prop}{ρ:AEnv}{s:AS}{ops:Array Oper}{f:FuncId}{π:List Nat}{args rs:List PV}{F:List PV→Sto→Option (AEnd×Sto)}{k0:Nat}{o:Op}{st st':Sto}
theorem jaA{c c':List PV→Sto→Option (AEnd×Sto)}(h:∀{a st r},c a st=some r→c' a st=some r)(hx:j4t c args π st=some r):j4t c' args π st=some r:=by
 unfold j4t at hx⊢;split at hx
 ·rename_i st0 h1 h2;cases hc:c (args.map (j1n (fun i=>place i 0 π) 8)) st0 with
  |none=>rw[hc] at hx;cases hx
  |some q=>
   rw[hc] at hx
   (try simp only[h1,h2,h hc])
   exact hx
 ·cases hx
theorem jaB(h:e.le e')(hx:j2s C e f args st=some r):j2s C e' f args st=some r:=by
 cases hh:handed C f args st with
 |none=>
  unfold handed at hh;unfold j2s at hx;cases hr:C.raw f<;>simp only[hr] at hh hx
  ·rw[hh] at hx;cases hx
  ·cases hh
 |some q=>
  obtain⟨args',st'⟩:=q;rw[j2b hh] at hx⊢;split at hx
  ·rename_i hp;cases hc:e.call f args' [] with
   |none=>rw[hc] at hx;cases hx
   |some q=>rw[hc] at hx;(try simp only[h.call hc]);exact hx
  ·rename_i hp;exact jaA (fun h1=>h.call h1) hx
theorem jdj(h:e.le e'){g:Operand}{xs:List Operand}{r:AR}(hx:j6x C e ρ st g xs=some r):j6x C e' ρ st g xs=some r:=by
 unfold j6x at hx⊢;split at hx
 ·rename_i f a b vs h1 h2;(try simp only[h1,h2])
  split at hx
  ·rename_i hc;(try simp only[hc])
   cases hh:j2s C e f (a++vs++b) st with
   |none=>rw[hh] at hx;cases hx
   |some q=>rw[hh] at hx;rw[jaB h hh];exact hx
  ·cases hx
 ·cases hx
theorem jdG(h:e.le e'){r:AR}(hx:aS C e ρ st o=some r):aS C e' ρ st o=some r:=by
 cases o with
 |call c=>
  obtain⟨callee,xs,ts⟩:=c;cases callee with
  |value g=>exact jdj h hx
  |invoke r m=>exact hx
  |builtin b=>cases b<;>exact hx
 |_=>exact hx
theorem jcC(h:e.le e'){r:AR}(hx:j7d C e ρ st o=some r):j7d C e' ρ st o=some r:=by
 unfold j7d at hx⊢;split at hx
 ·rename_i ha;(try simp only[ha])
  exact jdG h hx
 ·rename_i ha;(try simp only[ha])
  split at hx
  ·rename_i v hv;(try simp only[hv]);exact hx
  ·rename_i hv;(try simp only[hv])
   split at hx
   ·rename_i v hk;(try simp only[hk]);exact hx
   ·rename_i hk;(try simp only[hk]);exact jdG h hx
theorem jhe(h:e.le e'){r:AR}(hx:j4g C e ρ st o=some r):j4g C e' ρ st o=some r:=by
 unfold j4g at hx⊢;split at hx
 ·rename_i g xs ts;split at hx
  ·rename_i id hg;(try simp only[hg])
   split at hx
   ·rename_i vs hvs;unfold jgL at hx⊢;split at hx
    ·rename_i vs1 st1 hp;(try simp only[hp])
     cases hh:j4t e.yield (.yl id::vs1) (close st1 64 ((PV.yl id::vs1).flatMap (ids 8)) []).reverse st1 with
     |none=>rw[hh] at hx;cases hx
     |some q=>rw[hh] at hx;rw[jaA (fun h1=>h.yield h1) hh];exact hx
    ·cases hx
   ·cases hx
  ·exact jcC h hx
 ·split at hx
  ·rename_i hq;(try simp only[hq])
   exact jcC h hx
  ·cases hx
theorem j4u(h:e.le e'){ops:Array Oper}:∀{l:List Oper}{s:AS}{r:AX×AS},aops C e ops l s=some r→aops C e' ops l s=some r
 |[],s,r,hx=>hx
 |o::l,s,r,hx=>by
  unfold aops at hx⊢;split at hx
  ·rename_i hg;(try simp only[hg])
   cases ho:j4g C e s.env s.st o.op with
   |none=>rw[ho] at hx;cases hx
   |some q=>
    rw[ho] at hx;rw[jhe h ho];cases q with
    |val v st=>exact j4u h hx
    |unit st=>exact j4u h hx
    |pan v st=>exact hx
  ·rename_i hg;(try simp only[hg])
   exact j4u h hx
  ·cases hx
theorem j6v(h:e.le e'):(∀v,j1i C e ρ o=some v→j1i C e' ρ o=some v)∧(∀r,j1i C e ρ o=none→aS C e ρ st o=some r→j1i C e' ρ o=none):=by
 cases o with
 |call c=>
  obtain⟨callee,xs,ts⟩:=c;cases callee with
  |value g=>
   refine⟨fun v hx=>?_,fun r hx hs=>?_⟩
   ·unfold j1i at hx⊢;simp only at hx⊢;split at hx
    ·rename_i f a b vs h1 h2;(try simp only[h1,h2])
     split at hx
     ·rename_i hc;(try simp only[hc])
      cases hh:e.call f (a++vs++b) [] with
      |none=>rw[hh] at hx;cases hx
      |some q=>rw[hh] at hx;rw[h.call hh];exact hx
     ·cases hx
    ·cases hx
   ·have hs:j6x C e ρ st g xs.toList=some r:=hs;unfold j6x at hs;unfold j1i at hx⊢;simp only at hx⊢;split at hs
    ·rename_i f a b vs h1 h2;(try simp only[h1,h2] at hx⊢)
     split
     ·rename_i hc;(try simp only[hc] at hx)
      rw[Bool.and_eq_true] at hc;split at hs
      ·cases hh:e.call f (a++vs++b) [] with
       |none=>
        rw[j2b (j2Q hc.2)] at hs
        (try simp only[hc.2,hh] at hs)
        cases hs
       |some q=>
        rw[hh] at hx;rw[h.call hh];exact hx
      ·cases hs
     ·rfl
    ·cases hs
  |invoke r m=>exact⟨fun v hx=>hx,fun r hx _=>hx⟩
  |builtin b=>exact⟨fun v hx=>hx,fun r hx _=>hx⟩
 |_=>exact⟨fun v hx=>hx,fun r hx _=>hx⟩
theorem j7u(h:e.le e'){o:Oper}{r:PV×Sto×DK}(hx:j0P C e ops o ρ st=some r):j0P C e' ops o ρ st=some r:=by
 unfold j0P at hx⊢;split at hx
 ·rename_i hg;(try simp only[hg]);exact hx
 ·rename_i hg;(try simp only[hg])
  split at hx
  ·rename_i v hv;(try simp only[hv]);exact hx
  ·rename_i hv;(try simp only[hv])
   split at hx
   ·rename_i v hk;(try simp only[hk]);exact hx
   ·rename_i hk;(try simp only[hk])
    split at hx
    ·rename_i v hp;(try simp only[(j6v h (st:=st)).1 v hp])
     exact hx
    ·rename_i hp;split at hx
     ·rename_i v st1 ha;(try simp only[(j6v h).2 _ hp ha,jdG h ha])
      exact hx
     ·rename_i st1 ha;(try simp only[(j6v h).2 _ hp ha,jdG h ha])
      exact hx
     ·cases hx
 ·cases hx
theorem j9O(h:e.le e'){ops:Array Oper}:∀{l:List Oper}{s:AS}{r:AS×List Tr},j1N C e ops l s=some r→j1N C e' ops l s=some r
 |[],s,r,hx=>hx
 |o::l,s,r,hx=>by
  unfold j1N at hx⊢;split at hx
  ·rename_i v st d hd;(try simp only[j7u h hd])
   split at hx
   ·rename_i s' l' hr;(try simp only[j9O h hr])
    exact hx
   ·cases hx
  ·cases hx
theorem jfG{st1:Sto}{v:PV}(h:j2j π st (.ret rs) st1=some (.pan v,st')):False:=by
 unfold j2j at h;split at h
 ·simp only[Option.some.injEq,Prod.mk.injEq] at h;have h1:=h.1;unfold j5O at h1;split at h1
  ·cases h1
  ·cases h1
 ·cases h
theorem jlm{o:Oper}{r:PV×Sto}(hx:j9r C e ops o ρ st=some r):j0P C e ops o ρ st=none:=by
 unfold j9r at hx;split at hx
 ·rename_i hg;split at hx
  ·rename_i g xs ts hop;split at hx
   ·rename_i v st1 hs;have hs0:=hs;unfold j6x at hs;split at hs
    ·rename_i f a b vs hgv hxs;split at hs
     ·rename_i hc;have hp:j1i C e ρ (.call ⟨.value g,xs,ts⟩)=none:=by
       simp only[j1i,hgv,hxs,hc,Bool.true_and];split
       ·rename_i hp;split
        ·rename_i rs st2 hcall;exfalso;rw[j2b (j2Q hp)] at hs;simp only[hp,hcall] at hs;cases hpu:j6a (.ret rs) with
         |true=>
          rw[hpu] at hs;cases hs
         |false=>
          rw[hpu] at hs;simp only at hs;cases hcb:j2j [] st (.ret rs) st2 with
          |none=>rw[hcb] at hs;cases hs
          |some q=>
           obtain⟨q1,q2⟩:=q;rw[hcb] at hs;cases q1 with
           |ret _=>cases hs
           |pan _=>exact jfG hcb
        ·rfl
       ·rfl
      have h1:aP C.P ρ (.call ⟨.value g,xs,ts⟩)=none:=rfl;have h2:aK C.P ρ st (.call ⟨.value g,xs,ts⟩)=none:=rfl;have h3:aS C e ρ st (.call ⟨.value g,xs,ts⟩)=some (.pan v st1):=hs0;simp only[j0P,hg,hop,h1,h2,hp,h3]
     ·cases hs
    ·cases hs
   ·cases hx
  ·cases hx
 ·cases hx
theorem jln(h:e.le e'){o:Oper}{r:PV×Sto}(hx:j9r C e ops o ρ st=some r):j9r C e' ops o ρ st=some r:=by
 unfold j9r at hx⊢;split at hx
 ·rename_i hg;(try simp only[hg])
  split at hx
  ·rename_i g xs ts hop;(try simp only[hop])
   split at hx
   ·rename_i v st1 hs;rw[jdj h hs];exact hx
   ·cases hx
  ·cases hx
 ·cases hx
theorem j5m(h:e.le e'){ops:Array Oper}{cl:List (List Nat)}{q:Nat}:∀{l:List Oper}{i:Nat}{s:AS}{r:AS×List Tr},j1H C e ops cl q l i s=some r→j1H C e' ops cl q l i s=some r
 |[],i,s,r,hx=>hx
 |o::l,i,s,r,hx=>by
  unfold j1H at hx⊢;split at hx
  ·rename_i hh;(try simp only[hh])
   split at hx
   ·rename_i s' l' hr;(try simp only[j5m h hr])
    exact hx
   ·cases hx
  ·rename_i hh;(try simp only[hh])
   split at hx
   ·rename_i v st d hd;(try simp only[j7u h hd])
    split at hx
    ·rename_i s' l' hr;(try simp only[j5m h hr])
     exact hx
    ·cases hx
   ·cases hx
theorem j9L(h:e.le e'){ops:Array Oper}{cl:List (List Nat)}:∀{l:List Oper}{i:Nat}{s:AS}{r:PV×Sto×List Tr},j2m C e ops cl l i s=some r→j2m C e' ops cl l i s=some r
 |[],i,s,r,hx=>hx
 |o::l,i,s,r,hx=>by
  unfold j2m at hx⊢;split at hx
  ·rename_i v st d hd;(try simp only[j7u h hd])
   split at hx
   ·rename_i x st' l' hr;(try simp only[j9L h hr])
    exact hx
   ·cases hx
  ·split at hx
   ·rename_i v st hp;have hp':=jln h hp;(try simp only[jlm hp',hp'])
    split at hx
    ·rename_i s' l' hr;(try simp only[j5m h hr])
     exact hx
    ·cases hx
   ·cases hx
theorem j9M{ops:Array Oper}{cl:List (List Nat)}:∀{l:List Oper}{i:Nat}{s:AS}{r:PV×Sto×List Tr},j2m C e ops cl l i s=some r→j1N C e ops l s=none
 |[],i,s,r,hx=>by simp[j2m] at hx
 |o::l,i,s,r,hx=>by
  unfold j2m at hx;unfold j1N;split at hx
  ·rename_i v st d hd;(try simp only[hd])
   split at hx
   ·rename_i x st' l' hr;(try simp only[j9M hr])
   ·cases hx
  ·rename_i hd;(try simp only[hd])
theorem j3d(h:e.le e'):∀{c:Code}{s:AS}{r:AX×AS},exec C e c s=some r→exec C e' c s=some r:=by
 intro c
 induction c with
 |region id ops draw=>
  intro s r hx;(try simp only[exec] at hx⊢)
  split at hx
  ·exact j4u h hx
  ·unfold jkh at hx⊢;split at hx
   ·rename_i s' l hr;(try simp only[j9O h hr])
    exact hx
   ·split at hx
    ·rename_i v st l hp;have hp':=j9L h hp;(try simp only[j9M hp',hp'])
     exact hx
    ·cases hx
 |seq a b iha ihb=>
  intro s r hx;(try simp only[exec] at hx⊢)
  cases ha:exec C e a s with
  |none=>rw[ha] at hx;cases hx
  |some q=>
   obtain⟨x,s1⟩:=q;rw[ha] at hx;rw[iha ha];cases x with
   |normal=>exact ihb hx
   |_=>exact hx
 |cond c a b iha ihb=>
  intro s r hx;(try simp only[exec] at hx⊢)
  split at hx
  ·rename_i v hv;(try simp only[hv])
   split at hx
   ·exact iha hx
   ·exact ihb hx
  ·cases hx
 |block id c ih=>
  intro s r hx;(try simp only[exec] at hx⊢)
  cases ha:exec C e c s with
  |none=>rw[ha] at hx;cases hx
  |some q=>rw[ha] at hx;rw[ih ha];exact hx
 |loop c _=>intro s r hx;exact h.loop hx
 |rangeFunc f ps a b _ _=>
  intro s r hx;(try simp only[exec] at hx⊢)
  unfold j3P at hx⊢;split at hx
  ·rename_i g xs ys hg;(try simp only[hg])
   split at hx
   ·rename_i hc;(try simp only[hc])
    cases hh:j2s C e g (xs++[.yl s.st.length]++ys) (s.st++[.lp s.env ps.toList a b .ready]) with
    |none=>rw[hh] at hx;cases hx
    |some q=>rw[hh] at hx;rw[jaB h hh];exact hx
   ·cases hx
  ·cases hx
 |_=>intro s r hx;exact hx
theorem jkN(h:e.le e'):∀{c:Code}{s:AS}{r:AX×AS×Option PV},j5n C e c s=some r→j5n C e' c s=some r:=by
 intro c;have plain:∀{c:Code},(∀e s,j5n C e c s=match exec C e c s with
  |some (x,s1)=>some (x,s1,none)
  |none=>none)→∀{s:AS}{r:AX×AS×Option PV},j5n C e c s=some r→j5n C e' c s=some r:=fun{c} hc {s r} hx=>by
  rw[hc] at hx⊢;cases h1:exec C e c s with
  |none=>simp[h1] at hx
  |some q=>
   rw[h1] at hx;rw[j3d h h1];exact hx
 induction c with
 |seq a b _ ihb=>
  intro s r hx;simp only[j5n] at hx⊢;split at hx
  ·rename_i ops o g hc;(try simp only[hc])
   split at hx
   ·rename_i s1 h1;(try simp only[j4u h h1])
    split at hx
    ·rename_i D p q hg;(try simp only[hg])
     cases h2:exec C e b s1 with
     |none=>simp[h2] at hx
     |some q=>
      rw[h2] at hx;rw[j3d h h2];exact hx
    ·cases hx
   ·cases hx
  ·rename_i hc;(try simp only[hc])
   cases h1:exec C e a s with
   |none=>simp[h1] at hx
   |some q=>
    obtain⟨x,s1⟩:=q;rw[h1] at hx;rw[j3d h h1];cases x with
    |normal=>exact ihb hx
    |_=>exact hx
 |_=>exact plain fun e s=>rfl
theorem jhs(h:e.le e'){D:FuncId}{v:Option PV}{r:Option PV×Sto}(hx:j5M C e D args v st=some r):j5M C e' D args v st=some r:=by
 unfold j5M at hx⊢;split at hx
 ·rename_i fn hfn;(try simp only[hfn])
  split at hx
  ·rename_i c hc;(try simp only[hc])
   split at hx
   ·rename_i ops d r0 rest hr;(try simp only[hr])
    split at hx
    ·rename_i hb;(try simp only[hb])
     cases h1:aops C e ops r0 ⟨aput (some d) (jlg v) (argE 0 args),st⟩ with
     |none=>simp[h1] at hx
     |some q=>
      obtain⟨x,s1⟩:=q;rw[h1] at hx;rw[j4u h h1];cases x with
      |normal=>
       simp only at hx⊢;cases h2:exec C e rest s1 with
       |none=>simp[h2] at hx
       |some q2=>
        rw[h2] at hx;rw[j3d h h2];exact hx
      |_=>exact hx
    ·cases hx
   ·cases hx
  ·cases hx
 ·cases hx
theorem jmY(h:e.le e'){fn:Func}{x:AX}{cl:Option PV}(hx:endD C e f fn k0 x s cl=some r):endD C e' f fn k0 x s cl=some r:=by
 cases cl with
 |none=>exact hx
 |some c=>
  simp only[endD] at hx⊢;split at hx
  ·rename_i D p q v hv;(try simp only[hv])
   cases h1:j5M C e D (p++q) v s.st with
   |none=>simp[h1] at hx
   |some o=>
    rw[h1] at hx;rw[jhs h h1];exact hx
  ·cases hx
theorem jkn(h:e.le e')(hx:j5Q C e f args st=some r):j5Q C e' f args st=some r:=by
 unfold j5Q at hx⊢;split at hx
 ·rename_i F hF;(try simp only[hF]);exact hx
 ·rename_i hF;(try simp only[hF])
  split at hx
  ·rename_i fn hfn;(try simp only[hfn])
   split at hx
   ·rename_i c hc;(try simp only[hc])
    split at hx
    ·rename_i hb;(try simp only[hb])
     split at hx
     ·rename_i hcut;(try simp only[hcut])
      cases hh:exec C e c ⟨argE 0 args,st⟩ with
      |none=>rw[hh] at hx;cases hx
      |some q=>rw[hh] at hx;rw[j3d h hh];exact hx
     ·rename_i hcut;(try simp only[hcut])
      cases hh:j5n C e c ⟨argE 0 args,st⟩ with
      |none=>rw[hh] at hx;cases hx
      |some q=>
       obtain⟨x,s,cl⟩:=q;rw[hh] at hx;rw[jkN h hh];exact jmY h hx
    ·cases hx
   ·cases hx
  ·cases hx
theorem jl6(h:e.le e'){ks:List Nat}{c:Code}{r:AX×AS}(hx:jcq C e ks k0 c s=some r):jcq C e' ks k0 c s=some r:=by
 unfold jcq at hx⊢;cases hh:exec C e c s with
 |none=>rw[hh] at hx;cases hx
 |some q=>
  obtain⟨x,s1⟩:=q;rw[hh] at hx;rw[j3d h hh];cases x with
  |normal=>
   simp only at hx⊢;split at hx
   ·rename_i ρ hc;(try simp only[hc]);exact h.loop hx
   ·cases hx
  |_=>exact hx
theorem jiA(h:e.le e')(hx:ja0 C e args st=some r):ja0 C e' args st=some r:=by
 unfold ja0 at hx⊢;split at hx
 ·rename_i id vs;try simp only
  split at hx
  ·rename_i ρ ps a b hst;(try simp only[hst])
   split at hx
   ·rename_i s1 hl he;(try simp only[hl,j3d h he])
    split at hx
    ·rename_i ρ1 ps1 a1 b1 h1;(try simp only[h1])
     cases hh:exec C e b ⟨s1.env,s1.st.set id (.lp ρ1 ps1 a1 b1 .busy)⟩ with
     |none=>rw[hh] at hx;cases hx
     |some q=>rw[hh] at hx;rw[j3d h hh];exact hx
    ·cases hx
   ·cases hx
  ·cases hx
 ·cases hx
theorem jn8:∀n,(ev C n).le (ev C (n+1))
 |0=>⟨fun h=>by simp[ev] at h,fun h=>by simp[ev] at h,fun h=>by simp[ev] at h⟩
 |n+1=>⟨fun h=>jkn (jn8 n) h,fun h=>jl6 (jn8 n) h,fun h=>jiA (jn8 n) h⟩
theorem jsc{n:Nat}(h:(ev C n).call f args st=some r):∀{k:Nat},n≤k→(ev C k).call f args st=some r:=fun{k} hk=>by
 induction k with
 |zero=>
  obtain rfl:n=0:=by omega
  exact h
 |succ k ih=>
  rcases Nat.lt_or_ge n (k+1) with h1|h1
  ·exact(jn8 k).call (ih (by omega))
  ·obtain rfl:n=k+1:=by omega
   exact h
theorem je9{r:AEnd}(n:Nat)(h:(ev C n).call f args st=some (r,st'))(hq:Q r st'):Finds C f args st Q:=⟨r,st',hq,n,fun _ hk=>jsc h hk⟩
theorem joi(n:Nat)(h:(ev C n).call f args []=some (.ret rs,st')):Pf C f args rs:=je9 n h rfl
theorem juj(hn:C.nat f=some F)(h:F args []=some (.ret rs,st')):Pf C f args rs:=joi (st':=st') 1 (by
 show j5Q C (ev C 0) f args []=_
 unfold j5Q;rw[hn];exact h)
theorem jaf{r:AEnd}(hn:C.nat f=some F)(h:F args st=some (r,st'))(hq:Q r st'):Finds C f args st Q:=je9 1 (by
 show j5Q C (ev C 0) f args st=_
 unfold j5Q;rw[hn];exact h) hq
def natP(F:List PV→Option (List PV))(args:List PV)(st:Sto):Option (AEnd×Sto):=match st with
 |[]=>match F args with
  |some rs=>some (.ret rs,[])
  |none=>none
 |_=>none
theorem jry{F:List PV→Option (List PV)}(hn:C.nat f=some (natP F))(h:F args=some rs):Pf C f args rs:=juj hn (by
 unfold natP;rw[h])
end
open Go
def ltS:List UInt8→List UInt8→Bool
 |[],[]=>false
 |[],_::_=>true
 |_::_,[]=>false
 |a::r,b::s=>match Nat.blt a.toNat b.toNat with
  |true=>true
  |false=>match Nat.beq a.toNat b.toNat with
   |true=>ltS r s
   |false=>false
theorem jnV:∀(x y:List UInt8),ltS x y=decide (x<y)
 |[],[]=>by simp[ltS]
 |[],b::s=>by simp[ltS]
 |a::r,[]=>by simp[ltS]
 |a::r,b::s=>by
  have ih:=jnV r s;rw[ltS];rw[Bool.eq_iff_iff,decide_eq_true_eq,List.cons_lt_cons_iff];rw[Bool.eq_iff_iff,decide_eq_true_eq] at ih;have h1:a<b↔a.toNat<b.toNat:=UInt8.lt_iff_toNat_lt;have h2:a=b↔a.toNat=b.toNat:=UInt8.toNat_inj.symm;rw[h1,h2];cases hb:Nat.blt a.toNat b.toNat with
  |true=>rw[Nat.blt_eq] at hb;simp[hb]
  |false=>
   have hb':¬a.toNat<b.toNat:=fun e=>by rw[←Nat.blt_eq,hb] at e;cases e
   cases he:Nat.beq a.toNat b.toNat with
   |true=>
    have he':=Nat.eq_of_beq_eq_true he;simp[he',ih]
   |false=>
    have he':¬a.toNat=b.toNat:=fun e=>by rw[e,Nat.beq_refl] at he;cases he
    simp[hb',he']
def insS(x:List UInt8):List (List UInt8)→List (List UInt8)
 |[]=>[x]
 |y::r=>match ltS y x with
  |true=>y::insS x r
  |false=>x::y::r
def j2T:List (List UInt8)→List (List UInt8)
 |[]=>[]
 |x::r=>insS x (j2T r)
theorem jb7(x:List UInt8):∀l,(insS x l).Perm (x::l)
 |[]=>List.Perm.refl _
 |y::r=>by
  unfold insS;split
  ·exact((jb7 x r).cons y).trans (List.Perm.swap x y r)
  ·exact List.Perm.refl _
theorem j9y:∀l,(j2T l).Perm l
 |[]=>List.Perm.refl _
 |x::r=>(jb7 x (j2T r)).trans ((j9y r).cons x)
theorem j3m(l:List (List UInt8)):(j2T l).length=l.length:=(j9y l).length_eq
theorem jb8(x:List UInt8):∀l:List (List UInt8),l.Pairwise (fun a b=>a≤b)→(insS x l).Pairwise (fun a b=>a≤b)
 |[],_=>by simp[insS]
 |y::r,h=>by
  have h1:=List.pairwise_cons.1 h;unfold insS;cases hb:ltS y x with
  |true=>
   simp only;rw[jnV,decide_eq_true_eq] at hb;refine List.pairwise_cons.2 ⟨fun z hz=>?_,jb8 x r h1.2⟩
   rcases List.mem_cons.1 ((jb7 x r).mem_iff.1 hz) with rfl|hz
   ·exact List.le_of_lt hb
   ·exact h1.1 z hz
  |false=>
   simp only;rw[jnV,decide_eq_false_iff_not] at hb;have hxy:x≤y:=List.not_lt.1 hb;refine List.pairwise_cons.2 ⟨fun z hz=>?_,h⟩
   rcases List.mem_cons.1 hz with rfl|hz
   ·exact hxy
   ·exact List.le_trans hxy (h1.1 z hz)
theorem j9X:∀l,(j2T l).Pairwise (fun a b=>a≤b)
 |[]=>by simp[j2T]
 |x::r=>jb8 x _ (j9X r)
theorem jqK(l:List (List UInt8)):l.mergeSort (fun x y=>decide (x≤y))=j2T l:=by
 have tr:∀a b c:List UInt8,decide (a≤b)=true→decide (b≤c)=true→decide (a≤c)=true:=fun a b c h1 h2=>by simp only[decide_eq_true_eq] at *;exact List.le_trans h1 h2
 have to:∀a b:List UInt8,(decide (a≤b)||decide (b≤a))=true:=fun a b=>by simp only[Bool.or_eq_true,decide_eq_true_eq];exact List.le_total a b
 refine List.Perm.eq_of_pairwise (le:=fun a b=>decide (a≤b)=true) (fun a b _ _ h1 h2=>?_) (List.pairwise_mergeSort tr to l) ?_ ((List.mergeSort_perm l _).trans (j9y l).symm)
 ·simp only[decide_eq_true_eq] at h1 h2;exact List.le_antisymm h1 h2
 ·exact(j9X l).imp fun h=>decide_eq_true h
def eqS:List UInt8→List UInt8→Bool
 |[],[]=>true
 |a::r,b::s=>match Nat.beq a.toNat b.toNat with
  |true=>eqS r s
  |false=>false
 |_,_=>false
theorem jn4:∀(x y:List UInt8),eqS x y=decide (x=y)
 |[],[]=>by simp[eqS]
 |[],b::s=>by simp[eqS]
 |a::r,[]=>by simp[eqS]
 |a::r,b::s=>by
  have ih:=jn4 r s;rw[eqS];cases he:Nat.beq a.toNat b.toNat with
  |true=>
   have he':a=b:=UInt8.toNat_inj.1 (Nat.eq_of_beq_eq_true he);simp[he',ih]
  |false=>
   have he':a≠b:=fun e=>by rw[e,Nat.beq_refl] at he;cases he
   simp[he']
def j2x(p:List UInt8):List (List UInt8)→List (List UInt8)
 |[]=>[]
 |x::r=>match eqS x p with
  |true=>j2x p r
  |false=>x::j2x x r
def j5X:List (List UInt8)→List (List UInt8)
 |[]=>[]
 |x::r=>x::j2x x r
theorem j5i:∀(p:List UInt8) (l:List (List UInt8)) (x:List UInt8),j2x p (l++[x])=j2x p l++(if x=(l.getLast?).getD p then[] else[x])
 |p,[],x=>by
  simp only[List.nil_append,j2x,jn4]
  by_cases h:x=p<;>simp[h]
 |p,y::r,x=>by
  have hl:((y::r).getLast?).getD p=(r.getLast?).getD y:=by cases r<;>simp[List.getLast?_cons]
  simp only[List.cons_append,j2x,hl];cases he:eqS y p with
  |true=>
   rw[jn4,decide_eq_true_eq] at he;subst he;exact j5i y r x
  |false=>
   simp only[List.cons_append];rw[j5i y r x]
theorem jkr(l:List (List UInt8))(x:List UInt8):j5X (l++[x])=j5X l++(if l.getLast?=some x then[] else[x]):=by
 cases l with
 |nil=>simp[j5X,j2x]
 |cons y r=>
  have hl:(y::r).getLast?=some ((r.getLast?).getD y):=by cases r<;>simp[List.getLast?_cons]
  simp only[List.cons_append,j5X,j5i,hl,Option.some.injEq]
  by_cases h:x=(r.getLast?).getD y
  ·rw[if_pos h,if_pos h.symm]
  ·rw[if_neg h,if_neg (fun e=>h e.symm)]
theorem jks(zs:List (List UInt8)):Lib.compact zs=j5X zs:=by
 have main:∀m,m≤zs.length→Lib.compactUpTo zs.toArray m=j5X (zs.take m):=by
  intro m
  induction m with
  |zero=>intro _;simp[Lib.compactUpTo,j5X]
  |succ m ih=>
   intro hm;have hlt:m<zs.length:=by omega
   rw[Lib.compactUpTo_succ,ih (by omega),List.take_succ_eq_append_getElem hlt,jkr]
   congr 1
   have hg:zs.toArray[m]! = zs[m]:=by simp[getElem!_pos,hlt]
   rw[hg];cases m with
   |zero=>simp[Lib.keeps]
   |succ k=>
    have hg2:zs.toArray[k]! = zs[k]:=by
     have hk:k<zs.length:=by omega
     simp[List.getElem?_eq_getElem hk]
    have hlast:(zs.take (k+1)).getLast?=some zs[k]:=by
     rw[List.take_succ_eq_append_getElem (show k<zs.length by omega)]
     exact List.getLast?_concat
    rw[hlast];simp only[Lib.keeps,hg,Nat.add_sub_cancel,hg2]
    by_cases h:zs[k+1]=zs[k]
    ·simp[h]
    ·have h':¬zs[k]=zs[k+1]:=fun e=>h e.symm
     simp[h,h']
 have:=main zs.length (Nat.le_refl _);rw[List.take_length] at this;exact this
theorem j3N:∀(p:List UInt8) (l:List (List UInt8)),(j2x p l).length≤l.length
 |p,[]=>by simp[j2x]
 |p,x::r=>by
  simp only[j2x];split
  ·have:=j3N p r;simp;omega
  ·have:=j3N x r;simp;omega
theorem j9K(l:List (List UInt8)):(j5X l).length≤l.length:=by
 cases l with
 |nil=>simp[j5X]
 |cons x r=>have:=j3N x r;simp[j5X];omega
def j6q(l:List (List UInt8)):List (List UInt8):=j5X (j2T l)
end Go.Am
namespace Go.Proofs.YtbnodhcijeaceaaGreatDoor
open Go Go.RowKit
theorem jpG(n:Nat)(h0:0<n)(hn:n≤1000000)(w:World):
  Calls Tryz.prog 393 #[.slice none 0 0,.int .i64 n] w fun en w'=>∃cap cs,en=.returned (.slice (some ⟨w.heap.size,0,none⟩) 0 cap)∧w'=w.drew.alloc (.cells cs 25)∧cs.size=cap*5∧cap≤maxLen:=by
 have hw:IntKind.i64.wrap (n:Int)=n:=Gw.wrap_i64 (by unfold Gw.i64;omega)
 have hby:(Tryz.t25).bytes=80:=rfl
 go_enter Tryz.func393,Tryz.ntmps393
 go_wp2
 ·rename_i hc;exfalso;rw[nextslicecap_zero h0] at hc;omega
 ·go_ret
  have hge:=grownCap_ge w n 0 25;have hle:=grownCap_le_maxLen w n 0 25 (by unfold maxLen;omega)
  refine⟨grownCap w n 0 25,_,rfl,rfl,?_,hle⟩;simp only[Array.size_append,size_zeroCells];show n*5+(grownCap w n 0 25-n)*5=_
  omega
open Go.Am Go.Hb in
def jkV:List PV→Sto→Option (AEnd×Sto)
 |[.sl true 0 [],.sc (.int .i64 n)],[]=>match decide (0<n)&&decide (n≤1000000) with
  |true=>some (.ret [.ms 0 0],[.row false 25 5 []])
  |false=>match decide (n=0) with
   |true=>some (.ret [.sl true 0 []],[])
   |false=>none
 |_,_=>none
theorem jnn(w:World):Calls Tryz.prog 393 #[.slice none 0 0,.int .i64 0] w fun en w'=>en=.returned (.slice none 0 0)∧w'=w:=by
 go_enter Tryz.func393,Tryz.ntmps393
 go_wp2
 all_goals
  go_ret
  exact⟨rfl,rfl⟩
open Go.Am Go.Hb in
theorem js4:j3H (jat Tryz.prog 393) jkV:=fun args st r st' hx w m φ μ vs hs hr=>by
 unfold jkV at hx;split at hx
 ·rename_i n;obtain⟨v1,vs1,rfl,h1,h2⟩:=hr.uncons;obtain⟨v2,vs2,rfl,h3,h4⟩:=h2.uncons;have:vs2=[]:=List.eq_nil_of_length_eq_zero h4.1.symm;subst this;obtain rfl:=h3.sc_eq;cases h1 with
  | @sl _ _ _ _ ad cap b0 off0 g ha hcap hmax hfull hel hrr hnil=>
   obtain rfl:=hfull rfl;obtain rfl:=hnil rfl rfl;simp only[List.length_nil];split at hx
   ·rename_i hb;rw[Bool.and_eq_true,decide_eq_true_eq,decide_eq_true_eq] at hb;cases hx;obtain⟨k,rfl⟩:∃k:Nat,n=k:=⟨n.toNat,by omega⟩
    refine(jpG k (by omega) (by omega) w).mono fun en w' ⟨cap,cs,e1,e2,e3,e4⟩=>?_
    subst e1;subst e2;have hs':Sit ⟨w,m,feetOf μ⟩ m φ μ [] w:=⟨Hb.Good.start (ν:=[]) (by simpa using hs.good),hs.sto,hs.dom⟩
    have hg0:=(hs'.good.drew (w.drawn+1)).new (.cells cs 25);have hg1:Hb.Good ⟨w,m,feetOf μ⟩ (w.drew.alloc (.cells cs 25)) m (.row false (.slice (some ⟨w.heap.size,0,none⟩) 0 cap) 25 5 0 []::μ):=by
     have hg00:Hb.Good ⟨w,m,feetOf μ⟩ (w.drew.alloc (.cells cs 25)) m (.blk w.heap.size (.cells cs 25)::μ):=hg0;exact hg00.turn (w':=w.drew.alloc (.cells cs 25)) rfl rfl rfl (Nat.le_refl _) (fun _ _ _=>rfl) (fun b' o u hf hm=>hg00.sub b' o u hm) (by
       refine⟨rfl,.inr ⟨w.heap.size,cap,cs,(0,0),rfl,heap_alloc_new w.drew _,.inl rfl,Nat.zero_le _,e4,e3,by simp⟩⟩)
      (fun b' hf=>.inl ⟨hf,by simp[Res.lim]⟩)
    obtain⟨hsit,hext⟩:=hs'.push (p:=.row (.slice (some ⟨w.heap.size,0,none⟩) 0 cap) 0 5) (o:=.row false 25 5 []) hg1 ⟨some ⟨w.heap.size,0,none⟩,cap,[],by rw[j0q];rfl,rfl,by omega,⟨rfl,fun i x vs hi=>by simp at hi⟩⟩
    exact⟨m,_,_,hext,hsit,[_],rfl,.cons (.ms (j0q _ _ _) (Nat.le_refl _) (fun _=>rfl) ⟨_,_,_,rfl⟩) .nil⟩
   ·split at hx
    ·rename_i hb;rw[decide_eq_true_eq] at hb;cases hx;subst hb;refine(jnn w).mono fun en w' ⟨e1,e2⟩=>?_
     subst e1;subst e2;have hs':Sit ⟨w',m,feetOf μ⟩ m φ μ [] w':=⟨Hb.Good.start (ν:=[]) (by simpa using hs.good),hs.sto,hs.dom⟩
     exact⟨m,φ,μ,Ext.refl _ _,hs',[_],rfl,.cons (.sl b0 off0 g ha hcap hmax hfull hel hrr hnil) .nil⟩
    ·cases hx
 ·cases hx
end Go.Proofs.YtbnodhcijeaceaaGreatDoor

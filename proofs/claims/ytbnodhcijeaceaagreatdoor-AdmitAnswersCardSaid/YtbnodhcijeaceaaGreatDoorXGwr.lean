/- The plain machine answers with more fuel what it answers with less: so what the kernel reckons is found. Plain lemmas, no statement of the seat. -/
import Derived.Test.YtbnodhcijeaceaaGreatDoorXVc
import Derived.Lib.SlicesCompact
import Derived.Sort.KeysCollected
import Derived.Test.YtbnodhcijeaceaaGreatDoorChecked
set_option linter.all false
set_option maxRecDepth 100000
namespace Go.Am
open Go Go.Hb
open Go.Gw (tk tf tz tsl tar tpl isAggD callable looks deps statOk)
structure Ev.le (e e':Ev):Prop where
 call:∀{f a st r},e.call f a st=some r→e'.call f a st=some r
 loop:∀{ks k0 c s r},e.loop ks k0 c s=some r→e'.loop ks k0 c s=some r
 yield:∀{a st r},e.yield a st=some r→e'.yield a st=some r
section
variable{C:Cfg}{e e':Ev}
variable{r:AEnd×Sto}{Q:AEnd→Sto→Prop}{ρ:AEnv}{s:AS}{ops:Array Oper}{f:FuncId}{π:List Nat}{rs:List PV}{F:List PV→Sto→Option (AEnd×Sto)}{k0:Nat}{o:Op}{st st':Sto}
def jb5{c c':List PV→Sto→Option (AEnd×Sto)}(h:∀{a st r},c a st=some r→c' a st=some r){args:List PV}(hx:j4M c args π st=some r):j4M c' args π st=some r:=by
 unfold j4M at hx⊢;split at hx
 ·rename_i st0 h1 h2;cases hc:c (args.map (j1p (fun i=>place i 0 π) 8)) st0 with
  |none=>rw[hc] at hx;cases hx
  |some q=>
   rw[hc] at hx
   (try simp only[h1,h2,h hc])
   exact hx
 ·cases hx
def jb6(h:e.le e'){args:List PV}(hx:j2K C e f args st=some r):j2K C e' f args st=some r:=by
 cases hh:handed C f args st with
 |none=>
  unfold handed at hh;unfold j2K at hx;cases hr:C.raw f<;>simp only[hr] at hh hx
  ·rw[hh] at hx;cases hx
  ·cases hh
 |some q=>
  obtain⟨args',st'⟩:=q;rw[j2m hh] at hx⊢;split at hx
  ·rename_i hp;cases hc:e.call f args' [] with
   |none=>rw[hc] at hx;cases hx
   |some q=>rw[hc] at hx;(try simp only[h.call hc]);exact hx
  ·rename_i hp;exact jb5 (fun h1=>h.call h1) hx
def jdJ(h:e.le e'){g:Operand}{xs:List Operand}{r:AR}(hx:j6U C e ρ st g xs=some r):j6U C e' ρ st g xs=some r:=by
 unfold j6U at hx⊢;split at hx
 ·rename_i f a b vs h1 h2;(try simp only[h1,h2])
  split at hx
  ·rename_i hc;(try simp only[hc])
   cases hh:j2K C e f (a++vs++b) st with
   |none=>rw[hh] at hx;cases hx
   |some q=>rw[hh] at hx;rw[jb6 h hh];exact hx
  ·cases hx
 ·cases hx
def je5(h:e.le e'){r:AR}(hx:aS C e ρ st o=some r):aS C e' ρ st o=some r:=by
 cases o with
 |call c=>
  obtain⟨callee,xs,ts⟩:=c;cases callee with
  |value g=>exact jdJ h hx
  |invoke r m=>exact hx
  |builtin b=>cases b<;>exact hx
 |_=>exact hx
def jd4(h:e.le e'){r:AR}(hx:j7E C e ρ st o=some r):j7E C e' ρ st o=some r:=by
 unfold j7E at hx⊢;split at hx
 ·rename_i ha;(try simp only[ha])
  exact je5 h hx
 ·rename_i ha;(try simp only[ha])
  split at hx
  ·rename_i v hv;(try simp only[hv]);exact hx
  ·rename_i hv;(try simp only[hv])
   split at hx
   ·rename_i v hk;(try simp only[hk]);exact hx
   ·rename_i hk;(try simp only[hk]);exact je5 h hx
def jhD(h:e.le e'){r:AR}(hx:j4y C e ρ st o=some r):j4y C e' ρ st o=some r:=by
 unfold j4y at hx⊢;split at hx
 ·rename_i g xs ts;split at hx
  ·rename_i id hg;(try simp only[hg])
   split at hx
   ·rename_i vs hA;unfold jh9 at hx⊢;split at hx
    ·rename_i vs1 st1 hp;(try simp only[hp])
     cases hh:j4M e.yield (.yl id::vs1) (close st1 64 ((PV.yl id::vs1).flatMap (ids 8)) []).reverse st1 with
     |none=>rw[hh] at hx;cases hx
     |some q=>rw[hh] at hx;rw[jb5 (fun h1=>h.yield h1) hh];exact hx
    ·cases hx
   ·cases hx
  ·exact jd4 h hx
 ·split at hx
  ·rename_i hq;(try simp only[hq])
   exact jd4 h hx
  ·cases hx
def j4N(h:e.le e'){ops:Array Oper}:∀{l:List Oper}{s:AS}{r:AX×AS},aops C e ops l s=some r→aops C e' ops l s=some r
 |[],s,r,hx=>hx
 |o::l,s,r,hx=>by
  unfold aops at hx⊢;split at hx
  ·rename_i hg;(try simp only[hg])
   cases ho:j4y C e s.env s.st o.op with
   |none=>rw[ho] at hx;cases hx
   |some q=>
    rw[ho] at hx;rw[jhD h ho];cases q with
    |val v st=>exact j4N h hx
    |unit st=>exact j4N h hx
    |pan v st=>exact hx
  ·rename_i hg;(try simp only[hg])
   exact j4N h hx
  ·cases hx
def j6S(h:e.le e'):(∀v,j1o C e ρ o=some v→j1o C e' ρ o=some v)∧(∀r,j1o C e ρ o=none→aS C e ρ st o=some r→j1o C e' ρ o=none):=by
 cases o with
 |call c=>
  obtain⟨callee,xs,ts⟩:=c;cases callee with
  |value g=>
   refine⟨fun v hx=>?_,fun r hx hs=>?_⟩
   ·unfold j1o at hx⊢;simp only at hx⊢;split at hx
    ·rename_i f a b vs h1 h2;(try simp only[h1,h2])
     split at hx
     ·rename_i hc;(try simp only[hc])
      cases hh:e.call f (a++vs++b) [] with
      |none=>rw[hh] at hx;cases hx
      |some q=>rw[hh] at hx;rw[h.call hh];exact hx
     ·cases hx
    ·cases hx
   ·have hs:j6U C e ρ st g xs.toList=some r:=hs;unfold j6U at hs;unfold j1o at hx⊢;simp only at hx⊢;split at hs
    ·rename_i f a b vs h1 h2;(try simp only[h1,h2] at hx⊢)
     split
     ·rename_i hc;(try simp only[hc] at hx)
      rw[AB] at hc;split at hs
      ·cases hh:e.call f (a++vs++b) [] with
       |none=>
        rw[j2m (j3f hc.2)] at hs
        (try simp only[hc.2,hh] at hs)
        cases hs
       |some q=>
        rw[hh] at hx;rw[h.call hh];exact hx
      ·cases hs
     ·rfl
    ·cases hs
  |invoke r m=>exact⟨fun v hx=>hx,fun r hx _=>hx⟩
  |builtin b=>exact⟨fun v hx=>hx,fun r hx _=>hx⟩
 |_=>exact⟨fun v hx=>hx,fun r hx _=>hx⟩
def j7U(h:e.le e'){o:Oper}{r:PV×Sto×DK}(hx:j0U C e ops o ρ st=some r):j0U C e' ops o ρ st=some r:=by
 unfold j0U at hx⊢;split at hx
 ·rename_i hg;(try simp only[hg]);exact hx
 ·rename_i hg;(try simp only[hg])
  split at hx
  ·rename_i v hv;(try simp only[hv]);exact hx
  ·rename_i hv;(try simp only[hv])
   split at hx
   ·rename_i v hk;(try simp only[hk]);exact hx
   ·rename_i hk;(try simp only[hk])
    split at hx
    ·rename_i v hp;(try simp only[(j6S h (st:=st)).1 v hp])
     exact hx
    ·rename_i hp;split at hx
     ·rename_i v st1 ha;(try simp only[(j6S h).2 _ hp ha,je5 h ha])
      exact hx
     ·rename_i st1 ha;(try simp only[(j6S h).2 _ hp ha,je5 h ha])
      exact hx
     ·cases hx
 ·cases hx
def jah(h:e.le e'){ops:Array Oper}:∀{l:List Oper}{s:AS}{r:AS×List Tr},j1U C e ops l s=some r→j1U C e' ops l s=some r
 |[],s,r,hx=>hx
 |o::l,s,r,hx=>by
  unfold j1U at hx⊢;split at hx
  ·rename_i v st d hd;(try simp only[j7U h hd])
   split at hx
   ·rename_i s' l' hr;(try simp only[jah h hr])
    exact hx
   ·cases hx
  ·cases hx
def jg1{st1:Sto}{v:PV}(h:j2x π st (.ret rs) st1=some (.pan v,st')):False:=by
 unfold j2x at h;split at h
 ·simp only[AD,BB] at h;have h1:=h.1;unfold j5n at h1;split at h1
  ·cases h1
  ·cases h1
 ·cases h
def jlV{o:Oper}{r:PV×Sto}(hx:j9R C e ops o ρ st=some r):j0U C e ops o ρ st=none:=by
 unfold j9R at hx;split at hx
 ·rename_i hg;split at hx
  ·rename_i g xs ts qB;split at hx
   ·rename_i v st1 hs;have hB:=hs;unfold j6U at hs;split at hs
    ·rename_i f a b vs gB wA;split at hs
     ·rename_i hc;have hp:j1o C e ρ (.call ⟨.value g,xs,ts⟩)=none:=by
       simp only[j1o,gB,wA,hc,CG];split
       ·rename_i hp;split
        ·rename_i rs st2 hA;exfalso;rw[j2m (j3f hp)] at hs;simp only[hp,hA] at hs;cases gA:j6y (.ret rs) with
         |true=>
          rw[gA] at hs;cases hs
         |false=>
          rw[gA] at hs;simp only at hs;cases qA:j2x [] st (.ret rs) st2 with
          |none=>rw[qA] at hs;cases hs
          |some q=>
           obtain⟨q1,q2⟩:=q;rw[qA] at hs;cases q1 with
           |ret _=>cases hs
           |pan _=>exact jg1 qA
        ·rfl
       ·rfl
      have h1:aP C.P ρ (.call ⟨.value g,xs,ts⟩)=none:=rfl;have h2:aK C.P ρ st (.call ⟨.value g,xs,ts⟩)=none:=rfl;have h3:aS C e ρ st (.call ⟨.value g,xs,ts⟩)=some (.pan v st1):=hB;simp only[j0U,hg,qB,h1,h2,hp,h3]
     ·cases hs
    ·cases hs
   ·cases hx
  ·cases hx
 ·cases hx
def jlW(h:e.le e'){o:Oper}{r:PV×Sto}(hx:j9R C e ops o ρ st=some r):j9R C e' ops o ρ st=some r:=by
 unfold j9R at hx⊢;split at hx
 ·rename_i hg;(try simp only[hg])
  split at hx
  ·rename_i g xs ts hA;(try simp only[hA])
   split at hx
   ·rename_i v st1 hs;rw[jdJ h hs];exact hx
   ·cases hx
  ·cases hx
 ·cases hx
def j5G(h:e.le e'){ops:Array Oper}{cl:List (List Nat)}{q:Nat}:∀{l:List Oper}{i:Nat}{s:AS}{r:AS×List Tr},j1O C e ops cl q l i s=some r→j1O C e' ops cl q l i s=some r
 |[],i,s,r,hx=>hx
 |o::l,i,s,r,hx=>by
  unfold j1O at hx⊢;split at hx
  ·rename_i hh;(try simp only[hh])
   split at hx
   ·rename_i s' l' hr;(try simp only[j5G h hr])
    exact hx
   ·cases hx
  ·rename_i hh;(try simp only[hh])
   split at hx
   ·rename_i v st d hd;(try simp only[j7U h hd])
    split at hx
    ·rename_i s' l' hr;(try simp only[j5G h hr])
     exact hx
    ·cases hx
   ·cases hx
def jae(h:e.le e'){ops:Array Oper}{cl:List (List Nat)}:∀{l:List Oper}{i:Nat}{s:AS}{r:PV×Sto×List Tr},j2B C e ops cl l i s=some r→j2B C e' ops cl l i s=some r
 |[],i,s,r,hx=>hx
 |o::l,i,s,r,hx=>by
  unfold j2B at hx⊢;split at hx
  ·rename_i v st d hd;(try simp only[j7U h hd])
   split at hx
   ·rename_i x st' l' hr;(try simp only[jae h hr])
    exact hx
   ·cases hx
  ·split at hx
   ·rename_i v st hp;have hA:=jlW h hp;(try simp only[jlV hA,hA])
    split at hx
    ·rename_i s' l' hr;(try simp only[j5G h hr])
     exact hx
    ·cases hx
   ·cases hx
def jaf{ops:Array Oper}{cl:List (List Nat)}:∀{l:List Oper}{i:Nat}{s:AS}{r:PV×Sto×List Tr},j2B C e ops cl l i s=some r→j1U C e ops l s=none
 |[],i,s,r,hx=>by simp[j2B] at hx
 |o::l,i,s,r,hx=>by
  unfold j2B at hx;unfold j1U;split at hx
  ·rename_i v st d hd;(try simp only[hd])
   split at hx
   ·rename_i x st' l' hr;(try simp only[jaf hr])
   ·cases hx
  ·rename_i hd;(try simp only[hd])
def j3r(h:e.le e'):∀{c:Code}{s:AS}{r:AX×AS},exec C e c s=some r→exec C e' c s=some r:=by
 intro c
 induction c with
 |region id ops draw=>
  intro s r hx;(try simp only[exec] at hx⊢)
  split at hx
  ·exact j4N h hx
  ·unfold jkR at hx⊢;split at hx
   ·rename_i s' l hr;(try simp only[jah h hr])
    exact hx
   ·split at hx
    ·rename_i v st l hp;have hA:=jae h hp;(try simp only[jaf hA,hA])
     exact hx
    ·cases hx
 |seq a b iha ihb=>
  intro s r hx;(try simp only[exec] at hx⊢)
  cases ha:exec C e a s with
  |none=>rw[ha] at hx;cases hx
  |some q=>
   obtain⟨x,s1⟩:=q;rw[ha] at hx;rw[iha ha];cases x with
   |normal=>exact ihb hx
   |_=>exact hx
 |cond c a b iha ihb=>
  intro s r hx;(try simp only[exec] at hx⊢)
  split at hx
  ·rename_i v hv;(try simp only[hv])
   split at hx
   ·exact iha hx
   ·exact ihb hx
  ·cases hx
 |block id c ih=>
  intro s r hx;(try simp only[exec] at hx⊢)
  cases ha:exec C e c s with
  |none=>rw[ha] at hx;cases hx
  |some q=>rw[ha] at hx;rw[ih ha];exact hx
 |loop c _=>intro s r hx;exact h.loop hx
 |rangeFunc f ps a b _ _=>
  intro s r hx;(try simp only[exec] at hx⊢)
  unfold j4i at hx⊢;split at hx
  ·rename_i g xs ys hg;(try simp only[hg])
   split at hx
   ·rename_i hc;(try simp only[hc])
    cases hh:j2K C e g (xs++[.yl s.st.length]++ys) (s.st++[.lp s.env ps.toList a b .ready]) with
    |none=>rw[hh] at hx;cases hx
    |some q=>rw[hh] at hx;rw[jb6 h hh];exact hx
   ·cases hx
  ·cases hx
 |_=>intro s r hx;exact hx
def jlk(h:e.le e'):∀{c:Code}{s:AS}{r:AX×AS×Option PV},j5J C e c s=some r→j5J C e' c s=some r:=by
 intro c;have plain:∀{c:Code},(∀e s,j5J C e c s=match exec C e c s with
  |some (x,s1)=>some (x,s1,none)
  |none=>none)→∀{s:AS}{r:AX×AS×Option PV},j5J C e c s=some r→j5J C e' c s=some r:=fun{c} hc {s r} hx=>by
  rw[hc] at hx⊢;cases h1:exec C e c s with
  |none=>simp[h1] at hx
  |some q=>
   rw[h1] at hx;rw[j3r h h1];exact hx
 induction c with
 |seq a b _ ihb=>
  intro s r hx;simp only[j5J] at hx⊢;split at hx
  ·rename_i ops o g hc;(try simp only[hc])
   split at hx
   ·rename_i s1 h1;(try simp only[j4N h h1])
    split at hx
    ·rename_i D p q hg;(try simp only[hg])
     cases h2:exec C e b s1 with
     |none=>simp[h2] at hx
     |some q=>
      rw[h2] at hx;rw[j3r h h2];exact hx
    ·cases hx
   ·cases hx
  ·rename_i hc;(try simp only[hc])
   cases h1:exec C e a s with
   |none=>simp[h1] at hx
   |some q=>
    obtain⟨x,s1⟩:=q;rw[h1] at hx;rw[j3r h h1];cases x with
    |normal=>exact ihb hx
    |_=>exact hx
 |_=>exact plain fun e s=>rfl
def jhT(h:e.le e'){D:FuncId}{args:List PV}{v:Option PV}{r:Option PV×Sto}(hx:j6j C e D args v st=some r):j6j C e' D args v st=some r:=by
 unfold j6j at hx⊢;split at hx
 ·rename_i fn hA;(try simp only[hA])
  split at hx
  ·rename_i c hc;(try simp only[hc])
   split at hx
   ·rename_i ops d r0 rest hr;(try simp only[hr])
    split at hx
    ·rename_i hb;(try simp only[hb])
     cases h1:aops C e ops r0 ⟨aput (some d) (jlP v) (argE 0 args),st⟩ with
     |none=>simp[h1] at hx
     |some q=>
      obtain⟨x,s1⟩:=q;rw[h1] at hx;rw[j4N h h1];cases x with
      |normal=>
       simp only at hx⊢;cases h2:exec C e rest s1 with
       |none=>simp[h2] at hx
       |some q2=>
        rw[h2] at hx;rw[j3r h h2];exact hx
      |_=>exact hx
    ·cases hx
   ·cases hx
  ·cases hx
 ·cases hx
def jnG(h:e.le e'){fn:Func}{x:AX}{cl:Option PV}(hx:endD C e f fn k0 x s cl=some r):endD C e' f fn k0 x s cl=some r:=by
 cases cl with
 |none=>exact hx
 |some c=>
  simp only[endD] at hx⊢;split at hx
  ·rename_i D p q v hv;(try simp only[hv])
   cases h1:j6j C e D (p++q) v s.st with
   |none=>simp[h1] at hx
   |some o=>
    rw[h1] at hx;rw[jhT h h1];exact hx
  ·cases hx
def jkX(h:e.le e'){args:List PV}(hx:j6n C e f args st=some r):j6n C e' f args st=some r:=by
 unfold j6n at hx⊢;split at hx
 ·rename_i F hF;(try simp only[hF]);exact hx
 ·rename_i hF;(try simp only[hF])
  split at hx
  ·rename_i fn qA;(try simp only[qA])
   split at hx
   ·rename_i c hc;(try simp only[hc])
    split at hx
    ·rename_i hb;(try simp only[hb])
     split at hx
     ·rename_i hA;(try simp only[hA])
      cases hh:exec C e c ⟨argE 0 args,st⟩ with
      |none=>rw[hh] at hx;cases hx
      |some q=>rw[hh] at hx;rw[j3r h hh];exact hx
     ·rename_i hA;(try simp only[hA])
      cases hh:j5J C e c ⟨argE 0 args,st⟩ with
      |none=>rw[hh] at hx;cases hx
      |some q=>
       obtain⟨x,s,cl⟩:=q;rw[hh] at hx;rw[jlk h hh];exact jnG h hx
    ·cases hx
   ·cases hx
  ·cases hx
def jlE(h:e.le e'){ks:List Nat}{c:Code}{r:AX×AS}(hx:jcQ C e ks k0 c s=some r):jcQ C e' ks k0 c s=some r:=by
 unfold jcQ at hx⊢;cases hh:exec C e c s with
 |none=>rw[hh] at hx;cases hx
 |some q=>
  obtain⟨x,s1⟩:=q;rw[hh] at hx;rw[j3r h hh];cases x with
  |normal=>
   simp only at hx⊢;split at hx
   ·rename_i ρ hc;(try simp only[hc]);exact h.loop hx
   ·cases hx
  |_=>exact hx
def jja(h:e.le e'){args:List PV}(hx:jat C e args st=some r):jat C e' args st=some r:=by
 unfold jat at hx⊢;split at hx
 ·rename_i id vs;try simp only
  split at hx
  ·rename_i ρ ps a b hA;(try simp only[hA])
   split at hx
   ·rename_i s1 hl he;(try simp only[hl,j3r h he])
    split at hx
    ·rename_i ρ1 ps1 a1 b1 h1;(try simp only[h1])
     cases hh:exec C e b ⟨s1.env,s1.st.set id (.lp ρ1 ps1 a1 b1 .busy)⟩ with
     |none=>rw[hh] at hx;cases hx
     |some q=>rw[hh] at hx;rw[j3r h hh];exact hx
    ·cases hx
   ·cases hx
  ·cases hx
 ·cases hx
def jnR:∀n,(ev C n).le (ev C (n+1))
 |0=>⟨fun h=>by simp[ev] at h,fun h=>by simp[ev] at h,fun h=>by simp[ev] at h⟩
 |n+1=>⟨fun h=>jkX (jnR n) h,fun h=>jlE (jnR n) h,fun h=>jja (jnR n) h⟩
def ji2{args:List PV}{n:Nat}(h:(ev C n).call f args st=some r):∀{k:Nat},n≤k→(ev C k).call f args st=some r:=fun{k} hk=>by
 induction k with
 |zero=>
  obtain rfl:n=0:=by omega
  exact h
 |succ k ih=>
  rcases DP n (k+1) with h1|h1
  ·exact(jnR k).call (ih (by omega))
  ·obtain rfl:n=k+1:=by omega
   exact h
def jev{args:List PV}{r:AEnd}(n:Nat)(h:(ev C n).call f args st=some (r,st'))(hq:Q r st'):Finds C f args st Q:=⟨r,st',hq,n,fun _ hk=>ji2 h hk⟩
def jp4{args:List PV}(n:Nat)(h:(ev C n).call f args []=some (.ret rs,st')):Pf C f args rs:=jev n h rfl
def juy{args:List PV}(hn:C.nat f=some F)(h:F args []=some (.ret rs,st')):Pf C f args rs:=jp4 (st':=st') 1 (by
 show j6n C (ev C 0) f args []=_
 unfold j6n;rw[hn];exact h)
def j8B{args:List PV}{r:AEnd}(hn:C.nat f=some F)(h:F args st=some (r,st'))(hq:Q r st'):Finds C f args st Q:=jev 1 (by
 show j6n C (ev C 0) f args st=_
 unfold j6n;rw[hn];exact h) hq
def natP(F:List PV→Option (List PV))(args:List PV)(st:Sto):Option (AEnd×Sto):=match st with
 |[]=>match F args with
  |some rs=>some (.ret rs,[])
  |none=>none
 |_=>none
def jsg{F:List PV→Option (List PV)}{args:List PV}(hn:C.nat f=some (natP F))(h:F args=some rs):Pf C f args rs:=juy hn (by
 unfold natP;rw[h])
def jsV{C':Cfg}(hP:C'.P=C.P)(hC:∀n,CallOk C'.P (ev C' n).call)(h:∀args st r st',F args st=some (r,st')→∃n,(ev C' n).call f args st=some (r,st')):j2Z (j8i C.P f) F:=fun args st r st' hx w m φ μ vs hs hr=>by
 obtain⟨n,hn⟩:=h args st r st' hx;have:=hC n f args st r st' hn w m φ μ vs hs hr;rw[hP] at this;exact this
end
open Go
def ltS:List UInt8→List UInt8→Bool
 |[],[]=>false
 |[],_::_=>true
 |_::_,[]=>false
 |a::r,b::s=>match Nat.blt a.toNat b.toNat with
  |true=>true
  |false=>match Nat.beq a.toNat b.toNat with
   |true=>ltS r s
   |false=>false
def joF:∀(x y:List UInt8),ltS x y=decide (x<y)
 |[],[]=>by simp[ltS]
 |[],b::s=>by simp[ltS]
 |a::r,[]=>by simp[ltS]
 |a::r,b::s=>by
  have ih:=joF r s;rw[ltS];rw[CL,decide_eq_true_eq,List.cons_lt_cons_iff];rw[CL,decide_eq_true_eq] at ih;have h1:a<b↔a.toNat<b.toNat:=UInt8.lt_iff_toNat_lt;have h2:a=b↔a.toNat=b.toNat:=UInt8.toNat_inj.symm;rw[h1,h2];cases hb:Nat.blt a.toNat b.toNat with
  |true=>rw[BW] at hb;simp[hb]
  |false=>
   have qA:¬a.toNat<b.toNat:=fun e=>by rw[←BW,hb] at e;cases e
   cases he:Nat.beq a.toNat b.toNat with
   |true=>
    have hA:=AH he;simp[hA,ih]
   |false=>
    have hA:¬a.toNat=b.toNat:=fun e=>by rw[e,DG] at he;cases he
    simp[qA,hA]
def insS(x:List UInt8):List (List UInt8)→List (List UInt8)
 |[]=>[x]
 |y::r=>match ltS y x with
  |true=>y::insS x r
  |false=>x::y::r
def j3i:List (List UInt8)→List (List UInt8)
 |[]=>[]
 |x::r=>insS x (j3i r)
def jbD(x:List UInt8):∀l,(insS x l).Perm (x::l)
 |[]=>List.Perm.refl _
 |y::r=>by
  unfold insS;split
  ·exact((jbD x r).cons y).trans (List.Perm.swap x y r)
  ·exact List.Perm.refl _
def j7x:∀l,(j3i l).Perm l
 |[]=>List.Perm.refl _
 |x::r=>(jbD x (j3i r)).trans ((j7x r).cons x)
def j3C(l:List (List UInt8)):(j3i l).length=l.length:=(j7x l).length_eq
def jbE(x:List UInt8):∀l:List (List UInt8),l.Pairwise (fun a b=>a≤b)→(insS x l).Pairwise (fun a b=>a≤b)
 |[],_=>by simp[insS]
 |y::r,h=>by
  have h1:=CA.1 h;unfold insS;cases hb:ltS y x with
  |true=>
   simp only;rw[joF,decide_eq_true_eq] at hb;refine CA.2 ⟨fun z hz=>?_,jbE x r h1.2⟩
   rcases AN.1 ((jbD x r).mem_iff.1 hz) with rfl|hz
   ·exact List.le_of_lt hb
   ·exact h1.1 z hz
  |false=>
   simp only;rw[joF,decide_eq_false_iff_not] at hb;have hA:x≤y:=List.not_lt.1 hb;refine CA.2 ⟨fun z hz=>?_,h⟩
   rcases AN.1 hz with rfl|hz
   ·exact hA
   ·exact List.le_trans hA (h1.1 z hz)
def jar:∀l,(j3i l).Pairwise (fun a b=>a≤b)
 |[]=>by simp[j3i]
 |x::r=>jbE x _ (jar r)
def jrv(l:List (List UInt8)):l.mergeSort (fun x y=>decide (x≤y))=j3i l:=by
 have tr:∀a b c:List UInt8,decide (a≤b)=true→decide (b≤c)=true→decide (a≤c)=true:=fun a b c h1 h2=>by simp only[decide_eq_true_eq] at *;exact List.le_trans h1 h2
 have to:∀a b:List UInt8,(decide (a≤b)||decide (b≤a))=true:=fun a b=>by simp only[CK,decide_eq_true_eq];exact List.le_total a b
 refine List.Perm.eq_of_pairwise (le:=fun a b=>decide (a≤b)=true) (fun a b _ _ h1 h2=>?_) (List.pairwise_mergeSort tr to l) ?_ ((List.mergeSort_perm l _).trans (j7x l).symm)
 ·simp only[decide_eq_true_eq] at h1 h2;exact List.le_antisymm h1 h2
 ·exact(jar l).imp fun h=>decide_eq_true h
def eqS:List UInt8→List UInt8→Bool
 |[],[]=>true
 |a::r,b::s=>match Nat.beq a.toNat b.toNat with
  |true=>eqS r s
  |false=>false
 |_,_=>false
def jjB:∀(x y:List UInt8),eqS x y=decide (x=y)
 |[],[]=>by simp[eqS]
 |[],b::s=>by simp[eqS]
 |a::r,[]=>by simp[eqS]
 |a::r,b::s=>by
  have ih:=jjB r s;rw[eqS];cases he:Nat.beq a.toNat b.toNat with
  |true=>
   have hA:a=b:=UInt8.toNat_inj.1 (AH he);simp[hA,ih]
  |false=>
   have hA:a≠b:=fun e=>by rw[e,DG] at he;cases he
   simp[hA]
def j1N(p:List UInt8):List (List UInt8)→List (List UInt8)
 |[]=>[]
 |x::r=>match eqS x p with
  |true=>j1N p r
  |false=>x::j1N x r
def j5D:List (List UInt8)→List (List UInt8)
 |[]=>[]
 |x::r=>x::j1N x r
def j5C:∀(p:List UInt8) (l:List (List UInt8)) (x:List UInt8),j1N p (l++[x])=j1N p l++(if x=(l.getLast?).getD p then[] else[x])
 |p,[],x=>by
  simp only[BV,j1N,jjB]
  by_cases h:x=p<;>simp[h]
 |p,y::r,x=>by
  have hl:((y::r).getLast?).getD p=(r.getLast?).getD y:=by cases r<;>simp[HA]
  simp only[BY,j1N,hl];cases he:eqS y p with
  |true=>
   rw[jjB,decide_eq_true_eq] at he;subst he;exact j5C y r x
  |false=>
   simp only[BY];rw[j5C y r x]
def jl1(l:List (List UInt8))(x:List UInt8):j5D (l++[x])=j5D l++(if l.getLast?=some x then[] else[x]):=by
 cases l with
 |nil=>simp[j5D,j1N]
 |cons y r=>
  have hl:(y::r).getLast?=some ((r.getLast?).getD y):=by cases r<;>simp[HA]
  simp only[BY,j5D,j5C,hl,AD]
  by_cases h:x=(r.getLast?).getD y
  ·rw[if_pos h,if_pos h.symm]
  ·rw[if_neg h,if_neg (fun e=>h e.symm)]
def jl2(zs:List (List UInt8)):Lib.compact zs=j5D zs:=by
 have main:∀m,m≤zs.length→Lib.compactUpTo zs.toArray m=j5D (zs.take m):=by
  intro m
  induction m with
  |zero=>intro _;simp[Lib.compactUpTo,j5D]
  |succ m ih=>
   intro hm;have qA:m<zs.length:=by omega
   rw[Lib.compactUpTo_succ,ih (by omega),EG qA,jl1]
   congr 1
   have hg:zs.toArray[m]! = zs[m]:=by simp[getElem!_pos,qA]
   rw[hg];cases m with
   |zero=>simp[Lib.keeps]
   |succ k=>
    have gA:zs.toArray[k]! = zs[k]:=by
     have hk:k<zs.length:=by omega
     simp[AA hk]
    have hA:(zs.take (k+1)).getLast?=some zs[k]:=by
     rw[EG (show k<zs.length by omega)]
     exact List.getLast?_concat
    rw[hA];simp only[Lib.keeps,hg,GZ,gA]
    by_cases h:zs[k+1]=zs[k]
    ·simp[h]
    ·have h':¬zs[k]=zs[k+1]:=fun e=>h e.symm
     simp[h,h']
 have:=main zs.length (AU _);rw[BT] at this;exact this
def j6v:∀{p:List UInt8}{l:List (List UInt8)}{s:List UInt8},s∈p::j1N p l↔s∈p::l
 |p,[],s=>by simp[j1N]
 |p,x::r,s=>by
  simp only[j1N];cases he:eqS x p with
  |true=>
   rw[jjB,decide_eq_true_eq] at he;subst he;have:=j6v (p:=x) (l:=r) (s:=s);simp only[AN] at this⊢;rw[this];simp
  |false=>
   have:=j6v (p:=x) (l:=r) (s:=s);simp only[AN] at this⊢;rw[this]
variable{l:List (List UInt8)}{s:List UInt8}
def jnr:s∈j5D l↔s∈l:=by
 cases l with
 |nil=>simp[j5D]
 |cons x r=>exact j6v
def j4e:∀(p:List UInt8) (l:List (List UInt8)),(j1N p l).length≤l.length
 |p,[]=>by simp[j1N]
 |p,x::r=>by
  simp only[j1N];split
  ·have:=j4e p r;simp;omega
  ·have:=j4e x r;simp;omega
def jad(l:List (List UInt8)):(j5D l).length≤l.length:=by
 cases l with
 |nil=>simp[j5D]
 |cons x r=>have:=j4e x r;simp[j5D];omega
def j4p(l:List (List UInt8)):List (List UInt8):=j5D (j3i l)
def jeR:s∈j4p l↔s∈l:=by
 unfold j4p;rw[jnr,(j7x l).mem_iff]
end Go.Am
namespace Go.Proofs.YtbnodhcijeaceaaGreatDoor
open Go Go.RowKit
def jqs(n:Nat)(h0:0<n)(hn:n≤1000000)(w:World):
  Calls Tryz.prog 393 #[.slice none 0 0,.int .i64 n] w fun en w'=>∃cap cs,en=.returned (.slice (some ⟨w.heap.size,0,none⟩) 0 cap)∧w'=w.drew.alloc (.cells cs 25)∧cs.size=cap*5∧cap≤maxLen:=by
 have hw:IntKind.i64.wrap (n:Int)=n:=Gw.wrap_i64 (by unfold Gw.i64;omega)
 have gA:(Tryz.t25).bytes=80:=rfl
 go_enter Tryz.func393,Tryz.ntmps393
 go_wp2
 ·rename_i hc;exfalso;rw[nextslicecap_zero h0] at hc;omega
 ·go_ret
  have qA:=grownCap_ge w n 0 25;have hA:=grownCap_le_maxLen w n 0 25 (by unfold maxLen;omega)
  refine⟨grownCap w n 0 25,_,rfl,rfl,?_,hA⟩;simp only[EP,size_zeroCells];show n*5+(grownCap w n 0 25-n)*5=_
  omega
open Go.Am Go.Hb in
def jlt:List PV→Sto→Option (AEnd×Sto)
 |[.sl true 0 [],.sc (.int .i64 n)],[]=>match decide (0<n)&&decide (n≤1000000) with
  |true=>some (.ret [.ms 0 0],[.row false 25 5 []])
  |false=>match decide (n=0) with
   |true=>some (.ret [.sl true 0 []],[])
   |false=>none
 |_,_=>none
def jo6(w:World):Calls Tryz.prog 393 #[.slice none 0 0,.int .i64 0] w fun en w'=>en=.returned (.slice none 0 0)∧w'=w:=by
 go_enter Tryz.func393,Tryz.ntmps393
 go_wp2
 all_goals
  go_ret
  exact⟨rfl,rfl⟩
open Go.Am Go.Hb in
def jsS:j2Z (j8i Tryz.prog 393) jlt:=fun args st r st' hx w m φ μ vs hs hr=>by
 unfold jlt at hx;split at hx
 ·rename_i n;obtain⟨v1,vs1,rfl,h1,h2⟩:=hr.uncons;obtain⟨v2,vs2,rfl,h3,h4⟩:=h2.uncons;have:vs2=[]:=AJ h4.1.symm;subst this;obtain rfl:=h3.sc_eq;cases h1 with
  | @sl _ _ _ _ ad cap b0 off0 g ha wB qB hA wC hC qA=>
   obtain rfl:=hA rfl;obtain rfl:=qA rfl rfl;simp only[AG];split at hx
   ·rename_i hb;rw[AB,decide_eq_true_eq,decide_eq_true_eq] at hb;cases hx;obtain⟨k,rfl⟩:∃k:Nat,n=k:=⟨n.toNat,by omega⟩
    refine(jqs k (by omega) (by omega) w).mono fun en w' ⟨cap,cs,e1,e2,e3,e4⟩=>?_
    subst e1;subst e2;have wA:Sit ⟨w,m,feetOf μ⟩ m φ μ [] w:=⟨Hb.Good.start (ν:=[]) (by simpa using hs.good),hs.sto,hs.dom⟩
    have gC:=(wA.good.drew (w.drawn+1)).new (.cells cs 25);have qC:Hb.Good ⟨w,m,feetOf μ⟩ (w.drew.alloc (.cells cs 25)) m (.row false (.slice (some ⟨w.heap.size,0,none⟩) 0 cap) 25 5 0 []::μ):=by
     have gA:Hb.Good ⟨w,m,feetOf μ⟩ (w.drew.alloc (.cells cs 25)) m (.blk w.heap.size (.cells cs 25)::μ):=gC;exact gA.turn (w':=w.drew.alloc (.cells cs 25)) rfl rfl rfl (AU _) (fun _ _ _=>rfl) (fun b' o u hf hm=>gA.sub b' o u hm) (by
       refine⟨rfl,.inr ⟨w.heap.size,cap,cs,(0,0),rfl,heap_alloc_new w.drew _,.inl rfl,DD _,e4,e3,by simp⟩⟩)
      (fun b' hf=>.inl ⟨hf,by simp[Res.lim]⟩)
    obtain⟨hB,gB⟩:=wA.push (p:=.row (.slice (some ⟨w.heap.size,0,none⟩) 0 cap) 0 5) (o:=.row false 25 5 []) qC ⟨some ⟨w.heap.size,0,none⟩,cap,[],by rw[j0u];rfl,rfl,by omega,⟨rfl,fun i x vs hi=>by simp at hi⟩⟩
    exact⟨m,_,_,gB,hB,[_],rfl,.cons (.ms (j0u _ _ _) (AU _) (fun _=>rfl) ⟨_,_,_,rfl⟩) .nil⟩
   ·split at hx
    ·rename_i hb;rw[decide_eq_true_eq] at hb;cases hx;subst hb;refine(jo6 w).mono fun en w' ⟨e1,e2⟩=>?_
     subst e1;subst e2;have wA:Sit ⟨w',m,feetOf μ⟩ m φ μ [] w':=⟨Hb.Good.start (ν:=[]) (by simpa using hs.good),hs.sto,hs.dom⟩
     exact⟨m,φ,μ,Ext.refl _ _,wA,[_],rfl,.cons (.sl b0 off0 g ha wB qB hA wC hC qA) .nil⟩
    ·cases hx
 ·cases hx
end Go.Proofs.YtbnodhcijeaceaaGreatDoor
namespace Go.Gw
open Go
section
variable{E:Entry}{P:Program}{n:Nat}{K:Exit→St→Prop}{ρ:Env}{m:Mem}{μ:Own}{D:List Deferred}{ops:Array Oper}{rest:List Oper}
 {d:Nat}{ty:TypeId}{pos:String}{after:Array Edge}
variable{dst:Option Nat}{gd:Option (Nat×Bool)}{T T':TypeId}{x y z:Operand}{i j:Int}
end
open Go
inductive Lv where
 |mk (k n:Int) (ls:List Lv)
mutual
theorem Lv.ind{P:Lv→Prop}(h:∀k n ls,(∀l∈ls,P l)→P (.mk k n ls)):∀l,P l
 | .mk k n ls=>h k n ls (Lv.inds h ls)
theorem Lv.inds{P:Lv→Prop}(h:∀k n ls,(∀l∈ls,P l)→P (.mk k n ls)):∀ls:List Lv,∀l∈ls,P l
 |[],_,hl=>by cases hl
 |x::r,l,hl=>by
  rcases AN.1 hl with e|e
  ·rw[e];exact Lv.ind h x
  ·exact Lv.inds h r l e
end
mutual
def LvV(m:Mem):Lv→List Value→Prop
 | .mk k n ls,cs=>i64 k∧i64 n∧∃a cap,cs=[.int .i64 k,.int .i64 n,.slice a ls.length cap]∧(ls.length≤cap∧ls.length≤3518437208780)∧(ls=[]∨∃b off,a=some ⟨b,off,none⟩∧LvsV m ls b off)
def LvsV(m:Mem):List Lv→Nat→Nat→Prop
 |[],_,_=>True
 |l::r,b,off=>(∃cs,RdN m b off cs∧LvV m l cs)∧LvsV m r b (off+3)
end
mutual
theorem LvV.mono{m m':Mem}(hA:Mem.le m m'):∀{l:Lv}{cs:List Value},LvV m l cs→LvV m' l cs
 | .mk k n ls,cs,h=>by
  simp only[LvV] at h⊢;obtain⟨h1,h2,a,cap,h3,h4,h5⟩:=h;refine⟨h1,h2,a,cap,h3,h4,?_⟩;rcases h5 with h5|⟨b,off,h6,h7⟩
  ·exact .inl h5
  ·exact .inr ⟨b,off,h6,LvsV.mono hA h7⟩
theorem LvsV.mono{m m':Mem}(hA:Mem.le m m'):∀{ls:List Lv}{b off:Nat},LvsV m ls b off→LvsV m' ls b off
 |[],_,_,_=>trivial
 |l::r,b,off,h=>by
  simp only[LvsV] at h⊢;obtain⟨⟨cs,h1,h2⟩,h3⟩:=h;exact⟨⟨cs,h1.mono hA,LvV.mono hA h2⟩,LvsV.mono hA h3⟩
end
def LvsV.at{m:Mem}:∀{ls:List Lv}{b off i:Nat}{l:Lv},LvsV m ls b off→ls[i]?=some l→∃cs,RdN m b (off+i*3) cs∧LvV m l cs
 |[],_,_,_,_,_,h=>by simp at h
 |x::r,b,off,0,l,h,e=>by
  simp_all[DJ,AD,LvsV]
 |x::r,b,off,i+1,l,h,e=>by
  simp only[GH] at e;simp only[LvsV] at h;have:=LvsV.at h.2 e
  grind
mutual
def j1T:Lv→Int→Int
 | .mk _ _ ls,left=>j0H ls (left-1)
def j0H:List Lv→Int→Int
 |[],left=>left
 |l::r,left=>if left<0 then left else j0H r (j1T l left)
end
mutual
theorem j6w:∀(l:Lv) (left:Int),0≤left→-1≤j1T l left∧j1T l left≤left
 | .mk _ _ ls,left,h=>by
  simp only[j1T];have:=j4R ls (left-1) (by omega)
  omega
theorem j4R:∀(ls:List Lv) (left:Int),-1≤left→-1≤j0H ls left∧j0H ls left≤left
 |[],left,h=>by simp only[j0H];omega
 |l::r,left,h=>by
  simp only[j0H];split
  ·omega
  ·have h1:=j6w l left (by omega)
   have h2:=j4R r (j1T l left) (by omega)
   omega
end
def j4g(ls:List Lv)(left:Int)(h:left<0):j0H ls left=left:=by
 cases ls<;>simp[j0H,h]
variable{k n p z:Int}{ls:List Lv}{l x:Lv}{m m':Mem}{i q:Nat}{α:Type}{sv:Value}
def take_snoc'{l:List α}{x:α}(h:l[i]?=some x):l.take (i+1)=l.take i++[x]:=by
 obtain⟨h1,h2⟩:=AK.1 h;rw[EG h1,h2]
def drop_at{l:List α}{x:α}(h:l[i]?=some x):l.drop i=x::l.drop (i+1):=by
 obtain⟨h1,h2⟩:=AK.1 h;rw[DN h1,h2]
def Lv.kind:Lv→Int | .mk k _ _=>k
def Lv.num:Lv→Int | .mk _ n _=>n
def Lv.args:Lv→List Lv | .mk _ _ ls=>ls
def jcB(k:Int):Int:=if k=1∨k=2 then 0 else if k=3 then 1 else if k=4∨k=5 then 2 else -1
def j6l(l:Lv):Int:=64-max (j1T l 64) (-1)
def j7G:Lv→Int→Bool
 | .mk k n ls,p=>if(ls.length:Int)=jcB k then(if k=1 then decide (0≤n∧n≤100) else if k=2 then decide (0≤n∧n<p) else decide (n=0)) else false
mutual
def allF:Lv→Int→Bool
 | .mk k n ls,p=>j7G (.mk k n ls) p&&j3n ls p
def j3n:List Lv→Int→Bool
 |[],_=>true
 |l::r,p=>allF l p&&j3n r p
end
def j0C(l:Lv)(p:Int):Bool:=decide (0≤p)&&(decide (p≤4)&&(decide (j6l l≤64)&&allF l p))
def jk7(a b:Int):(if a<b then b else a)=max a b:=by
 omega
theorem LvV.open{cs:List Value}(h:LvV m l cs):∃k n ls a cap,l=.mk k n ls∧cs=[.int .i64 k,.int .i64 n,.slice a ls.length cap]∧i64 k∧i64 n∧ls.length≤3518437208780 ∧
  (∀i x,ls[i]?=some x→∃b off k1 n1 l1 a1 cap1,a=some ⟨b,off,none⟩∧x=.mk k1 n1 l1∧RdN m b (off+i*3) [.int .i64 k1,.int .i64 n1,.slice a1 l1.length cap1]∧LvV m x [.int .i64 k1,.int .i64 n1,.slice a1 l1.length cap1]):=by
 obtain⟨k,n,ls⟩:=l;have h0:=h;simp only[LvV] at h;obtain⟨h1,h2,a,cap,rfl,h4,h5⟩:=h;refine⟨k,n,ls,a,cap,rfl,rfl,h1,h2,h4.2,fun i x hx=>?_⟩
 obtain⟨b,off,rfl,hb⟩:=h5.resolve_left (fun e=>by grind)
 obtain⟨cc,hA,qA⟩:=LvsV.at hb hx;obtain⟨k1,n1,l1⟩:=x
 grind [LvV]
def jtF(k n:Int)(vs:List Int)(f:Int→Int):Int:=
 if k=1 then n else if k=2 then f n else if k=3 then vs.getD 0 0+1 else if k=5∧vs.getD 1 0=0 then 0 else max (vs.getD 0 0) (vs.getD 1 0)
mutual
def valF:Lv→(Int→Int)→Int
 | .mk k n ls,f=>jtF k n (juN ls f) f
def juN:List Lv→(Int→Int)→List Int
 |[],_=>[]
 |l::r,f=>valF l f::juN r f
end
mutual
def j0T:Lv→Nat
 | .mk _ _ ls=>j0d ls+1
def j0d:List Lv→Nat
 |[]=>0
 |l::r=>j0T l+j0d r
end
def jhc:∀{ls:List Lv}{i:Nat}{x:Lv},ls[i]?=some x→j0T x≤j0d ls
 |[],_,_,h=>by simp at h
 |l::r,0,x,h=>by simp_all[j0d]
 |l::r,i+1,x,h=>by
  have:=jhc (ls:=r) (i:=i) (x:=x) (by simpa using h)
  grind [j0d]
def jfg(h:j0T (.mk k n ls)≤q)(hx:ls[i]?=some x):j0T x≤q:=by
 have:=jhc hx
 grind [j0T]
def j5v:∀{ls:List Lv}{i:Nat}{x:Lv}{p:Int},j3n ls p=true→ls[i]?=some x→allF x p=true
 |[],_,_,_,_,h=>by simp at h
 |l::r,0,x,p,h,e=>by simp_all[j3n,AB]
 |l::r,i+1,x,p,h,e=>by
  simp only[j3n,AB] at h;exact j5v h.2 (by simpa using e)
def j9q(h:allF (.mk k n ls) p=true)(hx:ls[i]?=some x):allF x p=true:=by
 simp only[allF,AB] at h;exact j5v h.2 hx
def jaD(h:allF (.mk k n ls) p=true):j7G (.mk k n ls) p=true:=by
 simp_all[allF,AB]
def j7u(h:j7G (.mk k n ls) p=true):
  (k=1∧ls=[]∧0≤n∧n≤100)∨(k=2∧ls=[]∧0≤n∧n<p)∨(k=3∧n=0∧∃x,ls=[x])∨((k=4∨k=5)∧n=0∧∃x y,ls=[x,y]):=by
 simp only[j7G] at h;split at h
 ·rename_i hw;unfold jcB at hw
  by_cases h1:k=1
  ·simp_all
  ·by_cases h2:k=2
   ·simp_all
   ·rw[if_neg (by omega)] at hw
    simp only[h1,h2,if_false,decide_eq_true_eq] at h
    by_cases h3:k=3
    ·subst h3;simp at hw;refine .inr (.inr (.inl ⟨rfl,h,?_⟩));match ls,hw with
     |[x],_=>exact⟨x,rfl⟩
     |[],hw=>simp at hw
     |_::_::_,hw=>simp at hw;omega
    ·rw[if_neg h3] at hw
     by_cases h4:k=4∨k=5
     ·rw[if_pos h4] at hw;refine .inr (.inr (.inr ⟨h4,h,?_⟩));match ls,hw with
      |[x,y],_=>exact⟨x,y,rfl⟩
      |[],hw=>simp at hw
      |[_],hw=>simp at hw
      |_::_::_::_,hw=>simp at hw;omega
     omega
 ·cases h
def jmY(h:allF (.mk k n ls) p=true)(hk:k=2):0≤n∧n<p:=by
 rcases j7u (jaD h) with⟨h1,_⟩|⟨_,_,h2⟩|⟨h1,_⟩|⟨h1,_⟩<;>omega
def jq6(h:allF (.mk k n ls) p=true)(hk:k=3):∃x,ls=[x]:=by
 rcases j7u (jaD h) with⟨h1,_⟩|⟨h1,_⟩|⟨_,_,h2⟩|⟨h1,_⟩
 ·omega
 ·omega
 ·exact h2
 ·omega
def jsH(h:allF (.mk k n ls) p=true)(h1:k≠1)(h2:k≠2)(h3:k≠3):∃x y,ls=[x,y]:=by
 rcases j7u (jaD h) with⟨e,_⟩|⟨e,_⟩|⟨e,_⟩|⟨_,_,e⟩
 ·omega
 ·omega
 ·omega
 ·exact e
def IntsV(m:Mem)(vs:List Int)(sv:Value):Prop:=∃a cap,sv=.slice a vs.length cap∧vs.length≤cap∧vs.length≤140737488355328∧∀i v,vs[i]?=some v→∃b off,a=some ⟨b,off,none⟩∧Rd m b (off+i*1) (.int .i64 v)
def IntsV.mono{vs:List Int}(h:IntsV m vs sv)(hA:Mem.le m m'):IntsV m' vs sv:=by
 obtain⟨a,cap,h1,h2,h3,h4⟩:=h;exact⟨a,cap,h1,h2,h3,fun i v hv=>by obtain⟨b,off,h5,h6⟩:=h4 i v hv;exact⟨b,off,h5,h6.mono hA⟩⟩
def jjr(vs:List Int)(i:Int):Int:=match vs[i.toNat]? with
 |some v=>min (max v 0) 1048576
 |none=>0
def jv2(vs:List Int)(g i:Nat):Int:=if i<g then jjr vs i else 0
def jvs(l:Lv)(vs:List Int):Int:=if j0C l 4=true then valF l (jjr vs) else 0
mutual
theorem jg2:∀(l:Lv) (left:Int),0≤left→((j0T l:Int)≤left→j1T l left=left-j0T l)∧(left<(j0T l:Int)→j1T l left = -1)
 | .mk k n ls,left,h=>by
  have e:j0T (.mk k n ls)=j0d ls+1:=by simp[j0T]
  have h1:=j9x ls (left-1) (by omega)
  grind [j1T,j0d,j0H]
theorem j9x:∀(ls:List Lv) (left:Int),-1≤left→((j0d ls:Int)≤left→j0H ls left=left-j0d ls)∧(left<(j0d ls:Int)→ls≠[]→j0H ls left = -1)
 |[],left,h=>by simp[j0H,j0d]
 |l::r,left,h=>by
  have hp:1≤j0T l:=by cases l;simp[j0T]
  have e:j0d (l::r)=j0T l+j0d r:=by simp[j0d]
  rw[e]
  by_cases h0:left<0
  ·grind [j0H]
  ·have e2:j0H (l::r) left=j0H r (j1T l left):=by simp[j0H,h0]
   have h1:=jg2 l left (by omega)
   rw[e2]
   by_cases h3:(j0T l:Int)≤left
   ·rw[h1.1 h3];have h4:=j9x r (left-j0T l) (by omega)
    grind [j0d]
   ·rw[h1.2 (by omega),j4g _ _ (by omega)]
    omega
end
def j6P(l:Lv):j6l l=min (j0T l:Int) 65:=by
 unfold j6l;have h:=jg2 l 64 (by omega)
 omega
def jc8(h:j0C l p=true):allF l p=true:=by
 simp_all[j0C,AB]
def jiK(h:j0C l p=true):j0T l≤64:=by
 simp only[j0C,AB,decide_eq_true_eq,j6P] at h;omega
def j9V(h:j0C l p=true):j0T l≤100000:=by
 have:=jiK h;omega
structure Fm where
 num:Int
 off:Nat→Int
def Fm.cells(f:Fm):List Value:=[.int .i64 f.num,.int .i64 (f.off 0),.int .i64 (f.off 1),.int .i64 (f.off 2),.int .i64 (f.off 3)]
def Fm.v(f:Fm):Value:=.agg #[.int .i64 f.num,.int .i64 (f.off 0),.int .i64 (f.off 1),.int .i64 (f.off 2),.int .i64 (f.off 3)]
def Fm.ok(f:Fm)(q:Int):Prop:=(-1≤f.num∧f.num≤q)∧∀j,-1≤f.off j∧f.off j≤q
def jvy(g:Nat)(F G:Nat→Int)(j:Nat):Int:=if j<g then G j else F j
def j2o(n:Int):Fm:=⟨n,fun _=>-1⟩
def rise(x:Int):Int:=if x = -1 then -1 else x+1
def jc7(f:Fm):Fm:=⟨rise f.num,fun j=>rise (f.off j)⟩
def jcP(f g:Fm):Fm:=⟨max f.num g.num,fun j=>max (f.off j) (g.off j)⟩
def jbI(f:Fm):Nat→Int
 |0=>f.num
 |g+1=>if f.off g = -1 then jbI f g else max (jbI f g) (f.off g+1)
def joC(f:Fm):Int:=jbI f 4
def j8U(f g:Fm):Nat→Bool
 |0=>true
 |i+1=>j8U f g i&&decide (f.off i≤g.off i)
def jd5(f g:Fm):Bool:=j8U f g 4&&decide (f.num≤joC g)
def jtN(f:Fm):Bool:=decide (f.num=0)&&(decide (f.off 0 = -1)&&(decide (f.off 1 = -1)&&(decide (f.off 2 = -1)&&decide (f.off 3 = -1))))
def bit(z n:Int):Int:=z/2^n.toNat%2
def j8V(z n:Int):Fm:=if bit z n=0 then⟨-1,fun j=>if(j:Int)=n then 0 else -1⟩ else j2o 0
def j5N(k n:Int)(fs:List Fm)(z:Int):Fm:=
 if k=1 then j2o n else if k=2 then j8V z n else if k=3 then jc7 (fs.getD 0 (j2o 0)) else if k=5∧jtN (fs.getD 1 (j2o 0))=true then fs.getD 1 (j2o 0) else jcP (fs.getD 0 (j2o 0)) (fs.getD 1 (j2o 0))
mutual
def j2P:Lv→Int→Fm
 | .mk k n ls,z=>j5N k n (jjH ls z) z
def jjH:List Lv→Int→List Fm
 |[],_=>[]
 |l::r,z=>j2P l z::jjH r z
end
def jgq:j2P (.mk 3 n [x]) z=jc7 (j2P x z):=by simp[j2P,jjH,j5N]
def j8E{y:Lv}(h1:¬k=1)(h2:¬k=2)(h3:¬k=3):j2P (.mk k n [x,y]) z=if k=5∧jtN (j2P y z)=true then j2P y z else jcP (j2P x z) (j2P y z):=by simp[j2P,jjH,j5N,h1,h2,h3]
def jjG(l:Lv):∀z:Int,allF l 4=true→(j2P l z).ok (100+j0T l):=by
 induction l using Lv.ind with
 |_ k n ls ih=>
  intro z hA;rcases j7u (jaD hA) with⟨rfl,rfl,h1⟩|⟨rfl,rfl,h1⟩|⟨rfl,rfl,x,rfl⟩|⟨hk,rfl,x,y,rfl⟩
  ·simp[j2P,j5N,j2o,Fm.ok];omega
  ·have e:j2P (.mk 2 n []) z=j8V z n:=by simp[j2P,j5N]
   rw[e];unfold j8V
   ·split
    ·refine⟨by simp;omega,fun j=>?_⟩
     grind
    ·exact⟨by simp[j2o];omega,fun j=>by simp[j2o];omega⟩
  ·have h:=ih x (by simp) z (j9q hA (i:=0) rfl)
   rw[jgq];have hs:j0T (.mk 3 0 [x])=j0T x+1:=by simp[j0T,j0d]
   rw[hs];refine⟨?_,fun j=>?_⟩
   ·have:=h.1
    grind [jc7,rise]
   ·have:=h.2 j
    grind [jc7,rise]
  ·have hx:=ih x (by simp) z (j9q hA (i:=0) rfl)
   have hy:=ih y (by simp) z (j9q hA (i:=1) rfl)
   rw[j8E (by omega) (by omega) (by omega)]
   have hs:j0T (.mk k 0 [x,y])=j0T x+j0T y+1:=by simp[j0T,j0d]
   rw[hs];split
   ·exact⟨by have:=hy.1;omega,fun j=>by have:=hy.2 j;omega⟩
   ·refine⟨by have:=hx.1;have:=hy.1;grind [jcP],fun j=>by have:=hx.2 j;have:=hy.2 j;grind [jcP]⟩
def jip(a b:Lv):Nat→Bool
 |0=>true
 |z+1=>jip a b z&&jd5 (j2P a z) (j2P b z)
def leqF(a b:Lv):Bool:=j0C a 4&&(j0C b 4&&jip a b 16)
def jiq{a b:Lv}(hi:i<16)(h:jd5 (j2P a i) (j2P b i)=false):jip a b 16=false:=by
 have key:∀g,i<g→jip a b g=false:=by
  intro g
  induction g with
  |zero=>intro h';omega
  |succ g ih=>
   grind [jip]
 exact key 16 hi
def juF(h:0≤z):0≤z/2^q:=Int.ediv_nonneg h (Int.le_of_lt (Int.pow_pos (by omega)))
def juG(h:0≤z)(h1:z<16):z/2^q<64:=by
 have h2:z/2^q≤z:=Int.ediv_le_self _ h;omega
def jud{f:Fm}(h:f.ok (100+q))(hq:q≤100000):f.ok 1000000:=⟨by have:=h.1;omega,fun j=>by have:=h.2 j;omega⟩
def LvsS(m:Mem)(ls:List Lv)(sv:Value):Prop:=∃a cap,sv=.slice a ls.length cap∧ls.length≤cap∧ls.length≤3518437208780∧(ls=[]∨∃b off,a=some ⟨b,off,none⟩∧LvsV m ls b off)
def LvsS.mono(h:LvsS m ls sv)(hA:Mem.le m m'):LvsS m' ls sv:=by
 obtain⟨a,cap,h1,h2,h3,h4⟩:=h;refine⟨a,cap,h1,h2,h3,?_⟩;rcases h4 with h4|⟨b,off,h5,h6⟩
 ·exact .inl h4
 ·exact .inr ⟨b,off,h5,LvsV.mono hA h6⟩
def LvsS.open(h:LvsS m ls sv):∃a cap,sv=.slice a ls.length cap∧ls.length≤cap∧ls.length≤3518437208780 ∧
  (∀i x,ls[i]?=some x→∃b off k1 n1 l1 a1 cap1,a=some ⟨b,off,none⟩∧x=.mk k1 n1 l1∧RdN m b (off+i*3) [.int .i64 k1,.int .i64 n1,.slice a1 l1.length cap1]∧LvV m x [.int .i64 k1,.int .i64 n1,.slice a1 l1.length cap1]):=by
 obtain⟨a,cap,h1,h2,h3,h5⟩:=h;refine⟨a,cap,h1,h2,h3,fun i x hx=>?_⟩
 obtain⟨b,off,rfl,hb⟩:=h5.resolve_left (fun e=>by grind)
 obtain⟨cc,hA,qA⟩:=LvsV.at hb hx;obtain⟨k1,n1,l1⟩:=x
 grind [LvV]
def LvsS.tail{r:List Lv}{b off cap:Nat}(h:LvsS m (x::r) (.slice (some ⟨b,off,none⟩) (x::r).length cap))(hr:cap≠1):LvsS m r (.slice (some ⟨b,if cap=1 then off else off+1*3,none⟩) ((x::r).length-1) (cap-1)):=by
 obtain⟨a,c,h1,h2,h3,h4⟩:=h;simp only[Value.slice.injEq] at h1;obtain⟨rfl,_,rfl⟩:=h1;obtain⟨b',off',e,h5⟩:=h4.resolve_left (by simp)
 cases e;simp only[LvsV] at h5;rw[if_neg hr];have e:(x::r).length-1=r.length:=by simp
 rw[e];simp only[AC] at h2 h3;exact⟨_,_,rfl,by omega,by omega,.inr ⟨b,off+1*3,rfl,h5.2⟩⟩
def LvAll(m:Mem):List Lv→List (List Value)→Prop
 |[],[]=>True
 |l::ls,c::cs=>LvV m l c∧LvAll m ls cs
 |_,_=>False
def LvAll.mono{m m':Mem}(hA:Mem.le m m'):∀{ls:List Lv}{cs:List (List Value)},LvAll m ls cs→LvAll m' ls cs
 |[],[],_=>trivial
 |_::_,_::_,h=>⟨h.1.mono hA,LvAll.mono hA h.2⟩
 |[],_::_,h=>h.elim
 |_::_,[],h=>h.elim
def LvAll.snoc{m:Mem}:∀{ls:List Lv}{cs:List (List Value)}{l:Lv}{c:List Value},LvAll m ls cs→LvV m l c→LvAll m (ls++[l]) (cs++[c])
 |[],[],_,_,_,h=>⟨h,trivial⟩
 |_::_,_::_,_,_,h,h'=>⟨h.1,LvAll.snoc h.2 h'⟩
 |[],_::_,_,_,h,_=>h.elim
 |_::_,[],_,_,h,_=>h.elim
theorem LvV.len3{c:List Value}(h:LvV m l c):c.length=3:=by
 obtain⟨k,n,ls,a,cap,rfl,rfl,_⟩:=h.open;rfl
def LvAll.flat{m:Mem}{b:Nat}:∀{ls:List Lv}{cs:List (List Value)}{off:Nat},LvAll m ls cs→RdN m b off cs.flatten→LvsV m ls b off
 |[],[],_,_,_=>trivial
 |l::ls,c::cs,off,h,hr=>by
  have h3:=h.1.len3;refine⟨⟨c,fun j v hj=>hr j v ?_,h.1⟩,LvAll.flat h.2 fun j v hj=>?_⟩
  ·grind
  ·have:=hr (3+j) v (by grind)
   grind
 |[],_::_,_,h,_=>h.elim
 |_::_,[],_,h,_=>h.elim
def LvAll.made{cs:List (List Value)}{a:Option Addr}(h:LvAll m ls cs)(hr:RowAt m a cs.flatten):ls=[]∨∃b off,a=some ⟨b,off,none⟩∧LvsV m ls b off:=by
 rcases hr with hr|⟨b,rfl,hr⟩
 ·left
  match ls,cs,h with
  |[],_,_=>rfl
  |l::ls,c::cs,h=>
   have h3:=h.1.len3
   simp_all
 ·exact .inr ⟨b,0,rfl,h.flat hr⟩
def jeE(k n:Int)(ls:List Lv)(bys:List Lv):Lv:=if k=2 then bys.getD n.toNat (.mk 0 0 []) else .mk k n ls
mutual
def j2Y:Lv→List Lv→Lv
 | .mk k n ls,bys=>jeE k n (jdr ls bys) bys
def jdr:List Lv→List Lv→List Lv
 |[],_=>[]
 |l::r,bys=>j2Y l bys::jdr r bys
end
def j8H(k n:Int)(s:Int)(bys:List Lv):Int:=if k=2 then j6l (bys.getD n.toNat (.mk 0 0 [])) else 1+s
mutual
def j4Y:Lv→List Lv→Int
 | .mk k n ls,bys=>j8H k n (j3J ls bys) bys
def j3J:List Lv→List Lv→Int
 |[],_=>0
 |l::r,bys=>j4Y l bys+j3J r bys
end
def j7T:List Lv→Bool
 |[]=>true
 |l::r=>j0C l 4&&j7T r
def InstF(l:Lv)(bys:List Lv):Option Lv:=if j0C l bys.length=true then(if j7T bys=true then(if j4Y l bys≤64 then some (j2Y l bys) else none) else none) else none
def jgL(l:Lv):1≤j6l l∧j6l l≤65:=by
 have h:1≤j0T l:=by cases l;simp[j0T]
 rw[j6P];omega
mutual
theorem jgv:∀(l:Lv) (bys:List Lv),1≤j4Y l bys∧j4Y l bys≤65*j0T l
 | .mk k n ls,bys=>by
  have h:=j3R ls bys;have h2:=jgL (bys.getD n.toNat (.mk 0 0 []))
  grind [j4Y,j0T,j8H]
theorem j3R:∀(ls:List Lv) (bys:List Lv),0≤j3J ls bys∧j3J ls bys≤65*j0d ls
 |[],bys=>by simp[j3J,j0d]
 |l::r,bys=>by
  have h1:=jgv l bys;have h2:=j3R r bys
  grind [j3J,j0d]
end
def j8g(ls:List Lv)(i:Nat):j0d (ls.take i)≤j0d ls:=by
 induction ls generalizing i with
 |nil=>simp[j0d]
 |cons x r ih=>
  cases i with
  |zero=>simp[j0d]
  |succ i=>simp_all[EW,j0d]
mutual
def lnF:Lv→Int→Int
 | .mk _ _ ls,q=>min (lnFs ls 1 q) (q+1)
def lnFs:List Lv→Int→Int→Int
 |[],acc,_=>acc
 |l::r,acc,q=>if acc≤q then lnFs r (acc+lnF l q) q else acc
end
mutual
theorem jbK:∀(l:Lv) (q:Int),0≤q→lnF l q=min (j0T l:Int) (q+1)
 | .mk k n ls,q,h=>by
  have h1:=jbM ls 1 q h (by omega)
  grind [lnF,j0T]
theorem jbM:∀(ls:List Lv) (acc q:Int),0≤q→1≤acc→min (lnFs ls acc q) (q+1)=min (acc+j0d ls) (q+1)
 |[],acc,q,h,ha=>by simp[lnFs,j0d]
 |l::r,acc,q,h,ha=>by
  have h1:=jbK l q h;have hp:1≤j0T l:=by cases l;simp[j0T]
  have e2:j0d (l::r)=j0T l+j0d r:=by simp[j0d]
  rw[e2]
  by_cases hq:acc≤q
  ·have e:lnFs (l::r) acc q=lnFs r (acc+lnF l q) q:=by simp[lnFs,hq]
   have h2:=jbM r (acc+lnF l q) q h (by omega)
   rw[e,h2];omega
  grind [lnFs]
end
mutual
def jtA:Lv→Lv→Bool
 | .mk k n ls,.mk k' n' ls'=>decide (k=k')&&(decide (n=n')&&(decide (ls.length=ls'.length)&&j2j ls ls'))
def j2j:List Lv→List Lv→Bool
 |[],_=>true
 |_::_,[]=>true
 |l::r,l'::r'=>jtA l l'&&j2j r r'
end
mutual
theorem jmj:∀l:Lv,jtA l l=true
 | .mk k n ls=>by simp[jtA,jca ls]
theorem jca:∀ls:List Lv,j2j ls ls=true
 |[]=>by simp[j2j]
 |l::r=>by simp[j2j,jmj l,jca r]
end
def pts(i:Nat):Int:=[0,1,1000].getD i 0
def pt(i j k m:Nat):List Int:=[pts i,pts j,pts k,pts m]
def leAt(a b:Lv)(i j k m:Nat):Bool:=decide (valF a (jjr (pt i j k m))≤valF b (jjr (pt i j k m)))
def all3(g:Nat)(p:Nat→Bool):Bool:=match g with
 |0=>true
 |g+1=>all3 g p&&p g
def leqR(a b:Lv):Bool:=j0C a 4&&(j0C b 4&&all3 3 fun i=>all3 3 fun j=>all3 3 fun k=>all3 3 fun m=>leAt a b i j k m)

/- Code of the plain machine: the model does the same. Plain lemmas, no statement of the seat. -/
import Derived.Test.YtnfbeplfnblgjaaGreatDoorZAv
import Derived.OrdersIn
import Derived.RangeFuncRecord
set_option linter.all false
namespace Go.Am
open Go Go.Hb
open Go.Gw (tk tf tz tsl tar tpl isAggD)
theorem aget_adel{d t:Nat}(h:d≠t):∀{ρ:AEnv},aget (adel d ρ) t=aget ρ t
 |[]=>rfl
 |(k,v)::r=>by
  simp only[adel];cases hk:Nat.beq k d with
  |true=>
   obtain rfl:=Nat.eq_of_beq_eq_true hk;have:Nat.beq k t=false:=Bool.eq_false_iff.2 (fun e=>h (Nat.eq_of_beq_eq_true e))
   simp[aget,this]
  |false=>simp only[aget];rw[aget_adel h]
theorem aget_put{d t:Nat}{v x:PV}{ρ:AEnv}(h:aget (aput (some d) v ρ) t=some x):(d=t∧v=x)∨(d≠t∧aget ρ t=some x):=by
 simp only[aput,aget] at h;cases hk:Nat.beq d t with
 |true=>rw[hk] at h;exact .inl ⟨Nat.eq_of_beq_eq_true hk,Option.some.inj h⟩
 |false=>
  have hne:d≠t:=fun e=>by subst e;simp at hk
  rw[hk] at h;simp only at h;rw[aget_adel hne] at h;exact .inr ⟨hne,h⟩
def slotsD(n:Nat):Code→Bool
 | .seq a b=>match cutR a with
  |some (_,o,_)=>(dstOk n o.dst&&noDefer o.op)&&slots n b
  |none=>slots n a&&(flatC a&&slotsD n b)
 |c=>slots n c
def slotsP(P:Program):Bool:=P.funcs.toList.all fun fn=>match fn.body with
 |some c=>match cutC c with
  |true=>slotsD fn.ntmps c
  |false=>slots fn.ntmps c
 |none=>true
section
variable{P:Program}{E:Entry}{m:Mem}{φ:Ph}{μ:Own}{st:Sto}{ρ:AEnv}{a:Act}{w:World}{C:Cfg}{e:Ev}{n:Nat}
variable{r:AR}{s':AS}{x:AX}{next:Act→World→Prop}{ops:Array Oper}{args:Array Value}{Q:Exit→Act→World→Prop}{D:List Deferred}{k:Nat}{o:Oper}{d ro:Option Nat}{st1:Sto}{v:Value}
theorem EnvR.put{x:PV}(h:EnvR m φ ρ a)(hn:a.tmps.size=n)(hd:dstOk n d=true)(hx:R m φ x v):EnvR m φ (aput d x ρ) (a.put d v):=by
 cases d with
 |none=>exact h
 |some d=>
  intro t y ht;have hd':d<a.tmps.size:=by rw[hn];simpa[dstOk,Nat.blt_eq] using hd
  rcases aget_put ht with⟨rfl,rfl⟩|⟨h1,h2⟩
  ·exact⟨v,by simp[Act.put,Array.getElem?_setIfInBounds,hd'],hx⟩
  ·obtain⟨u,h3,h4⟩:=h t y h2;exact⟨u,by simp[Act.put,Array.getElem?_setIfInBounds,h1,h3],h4⟩
theorem put_size:(a.put d v).tmps.size=a.tmps.size:=by cases d<;>simp[Act.put]
theorem put_defers:(a.put d v).defers=a.defers:=by cases d<;>rfl
theorem retV_R{rs:List PV}{us:List Value}(h:Rl m φ rs us):R m φ (retV rs) (Gw.tup us):=by
 match rs,us,h with
 |[],[],h=>exact .tu h.1 h.2
 |[x],[u],h=>exact h.2 0 x u rfl rfl
 |x::y::r,u::v::s,h=>exact .tu h.1 h.2
 |[],_::_,h=>exact absurd h.1 (by simp)
 |[_],[],h=>exact absurd h.1 (by simp)
 |[_],_::_::_,h=>exact absurd h.1 (by simp)
 |_::_::_,[],h=>exact absurd h.1 (by simp)
 |_::_::_,[_],h=>exact absurd h.1 (by simp)
theorem oper_ok(he:CallOk C.P e.call)(hs:Sit E m φ μ st w)(h:EnvR m φ ρ a)(hx:aoper C e ρ st o.op=some r)
  (hn:∀x st' v w' m' φ' μ',r=.val x st'→Mem.le m m'→Ext st st' φ φ'→Sit E m' φ' μ' st' w'→R m' φ' x v→next (a.put o.dst v) w')
  (hu:∀st' w' m' φ' μ',r=.unit st'→Mem.le m m'→Ext st st' φ φ'→Sit E m' φ' μ' st' w'→next (a.put o.dst undef) w')
  (hp:∀x st' v c w' m' φ' μ',r=.pan x st'→PanL v c→Mem.le m m'→Ext st st' φ φ'→Sit E m' φ' μ' st' w'→R m' φ' x v→Q (.panic c) a w'):o.wp C.P a w next Q:=by
 obtain⟨dst,op,ty,pos,after,gd⟩:=o;simp only at hx hn hu hp;have does:∀{x:PV},r=.val x st→Does C.P w a m φ ⟨dst,op,ty,pos,after,gd⟩ x→Oper.wp C.P ⟨dst,op,ty,pos,after,gd⟩ a w next Q:=fun{x} hr hd=>by
  obtain⟨v,h1,h2⟩:=hd;unfold Oper.wp;rw[h1];exact hn x st v w m φ μ hr (Mem.le.refl m) (Ext.refl _ _) hs h2
 have acts:Acts C.P E m φ st w a ⟨dst,op,ty,pos,after,gd⟩ r→Oper.wp C.P ⟨dst,op,ty,pos,after,gd⟩ a w next Q:=fun ha=>by
  unfold Oper.wp;cases r with
  |val x st'=>obtain⟨v,w',m',φ',μ',h1,h2,h3,h4,h5⟩:=ha;rw[h1];exact hn x st' v w' m' φ' μ' rfl h2 h3 h4 h5
  |unit st'=>obtain⟨w',m',φ',μ',h1,h2,h3,h4⟩:=ha;rw[h1];exact hu st' w' m' φ' μ' rfl h2 h3 h4
  |pan x st'=>obtain⟨v,w',m',φ',μ',h1,h2,h3,h4,h5⟩:=ha;rw[h1];exact hp x st' v _ w' m' φ' μ' rfl (PanL.one v) h2 h3 h4 h5
 have hS:aS C e ρ st op=some r→Oper.wp C.P ⟨dst,op,ty,pos,after,gd⟩ a w next Q:=fun hx=>by
  unfold aS at hx;split at hx
  ·exact acts (acts_box hs h hx)
  ·exact acts (acts_alloc hs hx)
  ·exact acts (acts_store hs h hx)
  ·exact acts (acts_buildSlice hs h hx)
  ·exact acts (acts_slice rfl hs h hx)
  ·exact acts (acts_panic hs h hx)
  ·exact acts (acts_makeMap hs hx)
  ·rename_i xs ts _;split at hx
   ·rename_i x n T U hxs hts;have hx2:=hx;obtain rfl:xs = #[x,n]:=by apply Array.ext';simpa using hxs
    obtain rfl:ts = #[T,U]:=by apply Array.ext';simpa using hts
    exact acts (acts_unsafeStr hs h hx2)
   ·cases hx
  ·exact acts (acts_conv hs h hx)
  ·exact acts (acts_makeChan hs h hx)
  ·exact acts (acts_mapUpdate hs h hx).1
  ·exact acts (acts_mapUpdate hs h hx).2
  ·exact acts (acts_makeSlice hs h hx)
  ·exact acts (acts_append hs h hx)
  ·rename_i g xs ts _;unfold sCall at hx;split at hx
   ·rename_i f as bs vs hg hvs;split at hx
    ·rename_i hcall;have rg:=aval_R h hg;have rv:=avals_R h hvs;generalize heg:a.eval g=eg at rg;cases rg with
     | @fn _ _ _ _ us ws hl hl' hi hi'=>
      have hargs:Rl m φ (as++vs++bs) (us++xs.toList.map a.eval++ws):=(Rl.append ⟨hl,hi⟩ rv).append ⟨hl',hi'⟩;have hrun:(execOp a.eval ⟨dst,.call ⟨.value g,xs,ts⟩,ty,pos,after,gd⟩).run C.P w=.ok (.enter f (us++xs.toList.map a.eval++ws).toArray) w:=by
       unfold Gw.callable at hcall;split at hcall
       ·rename_i fn hfn;rw[Bool.and_eq_true] at hcall;cases hb:fn.body with
        |none=>simp[hb] at hcall
        |some body=>
         have hne:¬fn.name = "runtime.NumGoroutine" :=by simpa using hcall.2
         have ex:xs.map a.eval=(xs.toList.map a.eval).toArray:=by apply Array.ext';simp
         simp[execOp,resolve,Deferred.ofValue,heg,invoke,callFunc,hfn,hne,hb,ex]
       ·cases hcall
      have run:∀{r':AEnd}{st':Sto},acallS C e f (as++vs++bs) st=some (r',st')→(∀rs,r'=.ret rs→r=.val (retV rs) st')→(∀x,r'=.pan x→r=.pan x st')→Oper.wp C.P ⟨dst,.call ⟨.value g,xs,ts⟩,ty,pos,after,gd⟩ a w next Q:=fun{r' st'} hc h1 h2=>by
       have hok:=acallS_ok he hs hargs hc;unfold Oper.wp;rw[hrun];refine hok.mono fun en w' ⟨m',φ',μ',q1,q2,q3,q4⟩=>?_
       cases r' with
       |ret rs=>
        obtain⟨us',rfl,q5⟩:=q4;exact hn _ _ _ w' m' φ' μ' (h1 rs rfl) q1 q2 q3 (retV_R q5)
       |pan x=>
        obtain⟨u,⟨c,rfl,hc'⟩,q5⟩:=q4;exact hp _ _ _ c w' m' φ' μ' (h2 x rfl) hc' q1 q2 q3 q5
      split at hx
      ·rename_i rs st' hc;cases hx;exact run hc (fun rs' e'=>by cases e';rfl) (fun x e'=>by cases e')
      ·rename_i x st' hc;cases hx;exact run hc (fun rs' e'=>by cases e') (fun x e'=>by cases e';rfl)
      ·cases hx
    ·cases hx
   ·cases hx
  ·cases hx
 unfold aoper at hx;split at hx
 ·exact hS hx
 ·split at hx
  ·rename_i v hv;cases hx;exact does rfl (does_P (Am.Good.memW hs.good) h hv)
  ·split at hx
   ·rename_i v hv;cases hx;exact does rfl (does_K hs h hv)
   ·exact hS hx
def XR(m:Mem)(φ:Ph):AX→Exit→Prop
 | .normal,ex=>ex=.normal
 | .exit i,ex=>ex=.exit i
 | .ret,ex=>ex=.ret
 | .pan x,ex=>∃v,(∃c,ex=.panic c∧PanL v c)∧R m φ x v
def Post(D:List Deferred)(E:Entry)(n:Nat)(m:Mem)(φ:Ph)(st:Sto)(x:AX)(s':AS)(ex:Exit)(a':Act)(w':World):Prop:=
 ∃m' φ' μ',Mem.le m m'∧Ext st s'.st φ φ'∧Sit E m' φ' μ' s'.st w'∧EnvR m' φ' s'.env a'∧a'.tmps.size=n∧a'.defers=D∧XR m' φ' x ex
theorem Post.trans{m1:Mem}{φ1:Ph}{ex:Exit}{a':Act}{w':World}(hm:Mem.le m m1)(hx:Ext st st1 φ φ1)(h:Post D E n m1 φ1 st1 x s' ex a' w'):Post D E n m φ st x s' ex a' w':=by
 obtain⟨m',φ',μ',h1,h2,h3⟩:=h;exact⟨m',φ',μ',hm.trans h1,hx.trans h2,h3⟩
theorem undef_R:R m φ (.tu []) undef:=by
 have:Rl m φ [] []:=.nil;exact .tu this.1 this.2
theorem guard_ok{b:Bool}(h:EnvR m φ ρ a)(hx:guardP ops ρ o.guard=some b):Region.wanted o (yielded ops a.tmps)=b:=by
 unfold guardP at hx;unfold Region.wanted;split at hx
 ·rename_i hg;rw[hg];simpa using hx
 ·rename_i j want hg;rw[hg];simp only;split at hx
  ·rename_i t ht;split at hx
   ·rename_i v hv;cases hx;obtain⟨u,h1,h2⟩:=h t _ hv;have hu:=h2.sc_eq;subst hu;have:yielded ops a.tmps j=some v:=by
     unfold yielded;rw[ht];simp[h1]
    rw[this];cases v<;>cases want<;>rfl
   ·rename_i hv;cases hx;obtain⟨u,h1,h2⟩:=h t _ hv;cases h2 with
    | @tu _ _ vs hl hi=>
     have:vs=[]:=List.eq_nil_of_length_eq_zero (by simpa using hl.symm)
     subst this;have:yielded ops a.tmps j=none:=by
      unfold yielded;rw[ht];simp[h1]
     rw[this];rfl
   ·cases hx
  ·cases hx
def FF(ro:Option Nat):Fence:={ Fence.wide with round:=ro }
theorem calls_FF{f:FuncId}{R:Ending→World→Prop}(h:Calls P f args w R):CallsIn (FF ro) k P f args w R:=callsIn_wide.2 h
theorem rows_FF{row:String}{R:Value→World→Prop}(h:Rows P row args w R):RowsIn (FF ro) k P row args w R:=
 fun c cs _=>let⟨v,w',r,s⟩:=h c cs;⟨v,w',r,(stepsIn_wide (P:=P)).2 s⟩
theorem oper_FF(hd:noDefer o.op=true)(h:o.wp P a w next Q):o.wpIn (FF ro) k P a w next Q:=by
 refine⟨fun _ _=>trivial,?_⟩
 rw[Oper.semAt_eq _ _ _ (fun c e=>by rw[e] at hd;cases hd)]
 unfold Oper.wp at h;generalize(execOp a.eval o).run P w=r at h⊢;cases r with
 |ok nx w'=>
  cases nx with
  |enter f args=>exact⟨fun e=>(by cases e),calls_FF h⟩
  |row r args=>exact⟨fun e=>(by cases e),rows_FF h⟩
  |round l f t as bd=>exact h.elim
  |value v=>exact h
  |skip=>exact h
  |defer d=>exact h
  |_=>exact h.elim
 |halt hl w'=>
  cases hl with
  |panic v=>exact h
  |_=>exact h.elim
def YieldD(P:Program)(vs:List Value)(w:World)(R:Ending→World→Prop):Prop:=
 ∃l us fn tmps as bd,vs=.func (.yield l) #[] #[]::us∧(Instr.yield l us.toArray).run P w=.ok (.round l fn tmps as bd) w∧∀k,RoundIn Fence.wide k P l fn tmps as bd w R
theorem YieldD.mono(P:Program):∀vs w R R',YieldD P vs w R→(∀e w',R e w'→R' e w')→YieldD P vs w R':=
 fun _ _ _ _ ⟨l,us,fn,tmps,as,bd,h1,h2,h3⟩ hr=>⟨l,us,fn,tmps,as,bd,h1,h2,fun k=>(h3 k).mono hr⟩
theorem pstOp_ok{o:Op}{ρ':AEnv}(h:pstOp C ρ st o=some (ρ',st1))(hs:Sit E m φ μ st w)(hρ:EnvR m φ ρ a):∃m1 μ1,Mem.le m m1∧Ext st st1 φ φ∧Sit E m1 φ μ1 st1 w∧EnvR m1 φ ρ' a:=by
 have same:(ρ,st)=(ρ',st1)→∃m1 μ1,Mem.le m m1∧Ext st st1 φ φ∧Sit E m1 φ μ1 st1 w∧EnvR m1 φ ρ' a:=fun e=>by
  cases e;exact⟨m,μ,Mem.le.refl m,Ext.refl _ _,hs,hρ⟩
 unfold pstOp at h;split at h
 ·rename_i T x t;split at h
  ·split at h
   ·rename_i v hv;split at h
    ·rename_i v' st' hp;cases h;obtain⟨u,h1,h2⟩:=hρ t v hv;obtain⟨m1,μ1,e1,e2,e3,e4⟩:=pubV_ok hp hs h2;refine⟨m1,μ1,e1,e2,e3,fun d y hy=>?_⟩
     rcases aget_put hy with⟨rfl,rfl⟩|⟨_,h3⟩
     ·exact⟨u,h1,e4⟩
     ·obtain⟨u',h4,h5⟩:=hρ d y h3;exact⟨u',h4,h5.mono e1 (Le.refl φ)⟩
    ·cases h
   ·cases h
  ·exact same (Option.some.inj h)
 ·exact same (Option.some.inj h)
theorem operY_ok(he:CallOk C.P e.call)(hy:DoesOk (YieldD C.P) e.yield)(hs:Sit E m φ μ st w)(h:EnvR m φ ρ a)(hd:noDefer o.op=true)(hx:aoperY C e ρ st o.op=some r)
  (hn:∀x st' v w' m' φ' μ',r=.val x st'→Mem.le m m'→Ext st st' φ φ'→Sit E m' φ' μ' st' w'→R m' φ' x v→next (a.put o.dst v) w')
  (hu:∀st' w' m' φ' μ',r=.unit st'→Mem.le m m'→Ext st st' φ φ'→Sit E m' φ' μ' st' w'→next (a.put o.dst undef) w')
  (hp:∀x st' v c w' m' φ' μ',r=.pan x st'→PanL v c→Mem.le m m'→Ext st st' φ φ'→Sit E m' φ' μ' st' w'→R m' φ' x v→Q (.panic c) a w'):o.wpIn (FF ro) k C.P a w next Q:=by
 unfold aoperY at hx;split at hx
 ·rename_i g xs ts hop;split at hx
  ·rename_i id hg;split at hx
   ·rename_i vs hvs;unfold sYield at hx;split at hx
    ·rename_i vs1 st1 hpub;split at hx
     ·rename_i rs st2 hc;cases hx;have rg:=aval_R h hg;obtain⟨m1,μ1,e1,e2,e3,e4⟩:=pubL_ok hpub hs (avals_R h hvs);have hargs:Rl m1 φ (.yl id::vs1) (a.eval g::xs.toList.map a.eval):=.cons (rg.mono e1 (Le.refl φ)) e4;have hok:=acallM_ok (YieldD.mono C.P) hy ((List.reverse_perm _).nodup_iff.2 (close_nodup List.nodup_nil)) e3 hargs hc;obtain⟨l,us,fn,tmps,as,bd,h1,h2,h3⟩:=hok;simp only[List.cons.injEq] at h1;obtain⟨hl,rfl⟩:=h1;have ex:xs.map a.eval=(xs.toList.map a.eval).toArray:=by apply Array.ext';simp
      have hrun:(execOp a.eval o).run C.P w=.ok (.round l fn tmps as bd) w:=by
       have:(execOp a.eval o).run C.P w=(Instr.yield l (xs.toList.map a.eval).toArray).run C.P w:=by
        unfold execOp;rw[hop];simp[resolve,Deferred.ofValue,hl,invoke,ex]
       rw[this];exact h2
      refine⟨fun _ _=>trivial,?_⟩
      rw[Oper.semAt_eq _ _ _ (fun c e=>by rw[e] at hd;cases hd),hrun]
      refine⟨fun e=>(by cases e),?_⟩
      refine RoundIn.mono (F:=Fence.wide) (h3 _) fun en w' ⟨m',φ',μ',q1,q2,q3,q4⟩=>?_
      obtain⟨us',rfl,q5⟩:=q4;exact hn _ _ _ w' m' φ' μ' rfl (e1.trans q1) (e2.trans q2) q3 (retV_R q5)
     ·cases hx
    ·cases hx
   ·cases hx
  ·exact oper_FF hd (oper_ok he hs h (by first|exact hx|(rw[hop];exact hx)) hn hu hp)
 ·split at hx
  ·rename_i ρ' st1 hq;obtain⟨m1,μ1,e1,e2,e3,e4⟩:=pstOp_ok hq hs h;exact oper_FF hd (oper_ok he e3 e4 hx (fun x st' v w' m' φ' μ' q1 q2 q3 q4 q5=>hn x st' v w' m' φ' μ' q1 (e1.trans q2) (e2.trans q3) q4 q5) (fun st' w' m' φ' μ' q1 q2 q3 q4=>hu st' w' m' φ' μ' q1 (e1.trans q2) (e2.trans q3) q4) (fun x st' v c w' m' φ' μ' q1 q0 q2 q3 q4 q5=>hp x st' v c w' m' φ' μ' q1 q0 (e1.trans q2) (e2.trans q3) q4 q5))
  ·cases hx
theorem aops_ok{D:List Deferred}{ro:Option Nat}{k:Nat}(he:CallOk C.P e.call)(hy:DoesOk (YieldD C.P) e.yield){ops:Array Oper}{m0:Mem}{φ0:Ph}{st0:Sto}:∀{l:List Oper}{s s':AS}{x:AX}{m:Mem}{φ:Ph}{μ:Own}{a:Act}{w:World},aops C e ops l s=some (x,s')→l.all (fun o=>dstOk n o.dst&&noDefer o.op)=true→Mem.le m0 m→Ext st0 s.st φ0 φ→Sit E m φ μ s.st w→EnvR m φ s.env a→a.tmps.size=n→a.defers=D →
  wpListIn (FF ro) k C.P ops (Post D E n m0 φ0 st0 x s') l a w
 |[],s,s',x,m,φ,μ,a,w,hx,_,hm,hxt,hs,h,hn,hD=>by
  simp only[aops,Option.some.injEq,Prod.mk.injEq] at hx;obtain⟨rfl,rfl⟩:=hx;exact⟨m,φ,μ,hm,hxt,hs,h,hn,hD,rfl⟩
 |o::l,s,s',x,m,φ,μ,a,w,hx,hd,hm,hxt,hs,h,hn,hD=>by
  simp only[List.all_cons,Bool.and_eq_true] at hd;obtain⟨⟨hd1,hd3⟩,hd2⟩:=hd;have hd2:l.all (fun o=>dstOk n o.dst&&noDefer o.op)=true:=hd2
  simp only[aops] at hx;unfold wpListIn;split at hx
  ·rename_i hg;rw[if_pos (guard_ok h hg)];cases ho:aoperY C e s.env s.st o.op with
   |none=>simp[ho] at hx
   |some r=>
    rw[ho] at hx;refine operY_ok he hy hs h hd3 ho (fun x1 st1 v w' m' φ' μ' hr q1 q2 q3 q4=>?_) (fun st1 w' m' φ' μ' hr q1 q2 q3=>?_) (fun x1 st1 v c w' m' φ' μ' hr hc q1 q2 q3 q4=>?_)
    ·subst hr;exact aops_ok he hy hx hd2 (hm.trans q1) (hxt.trans q2) q3 ((h.mono q1 q2.le).put hn hd1 q4) (by rw[put_size];exact hn) (by rw[put_defers];exact hD)
    ·subst hr;exact aops_ok he hy hx hd2 (hm.trans q1) (hxt.trans q2) q3 ((h.mono q1 q2.le).put hn hd1 undef_R) (by rw[put_size];exact hn) (by rw[put_defers];exact hD)
    ·subst hr;simp only[Option.some.injEq,Prod.mk.injEq] at hx;obtain⟨rfl,rfl⟩:=hx;exact⟨m',φ',μ',hm.trans q1,hxt.trans q2,q3,h.mono q1 q2.le,hn,hD,v,⟨c,rfl,hc⟩,q4⟩
  ·rename_i hg;rw[if_neg (by rw[guard_ok h hg];simp)]
   exact⟨fun _ _=>trivial,aops_ok (s:=⟨aput o.dst (.tu []) s.env,s.st⟩) he hy hx hd2 hm hxt hs (h.put hn hd1 undef_R) (by rw[put_size];exact hn) (by rw[put_defers];exact hD)⟩
  ·cases hx
theorem opAny_FF{K K':Act→World→Prop}(hnd:∀(i:Nat) o,ops[i]?=some o→noDefer o.op=true)(hQ:¬LetsOut Q){i:Nat}(hK:∀a w,K a w→K' a w)(h:wpOp P ops Q i K a w):wpOpIn (FF ro) k P ops Q i K' a w:=by
 refine wpOpIn_mono hK ?_;unfold wpOp at h;unfold wpOpIn;cases ho:ops[i]? with
 |none=>rw[ho] at h;exact h
 |some o=>
  rw[ho] at h;simp only at h ⊢
  by_cases hw:Region.wanted o (yielded ops a.tmps)=true
  ·rw[if_pos hw] at h⊢;rcases h with h|⟨_,h⟩
   ·exact oper_FF (hnd i o ho) h
   ·exact absurd h hQ
  ·rw[if_neg hw] at h⊢;exact⟨fun _ _=>trivial,h⟩
theorem any_FF{ro:Option Nat}{k:Nat}{md:Region.Mode}{ops:Array Oper}{Q:Exit→Act→World→Prop}(hnd:∀(i:Nat) o,ops[i]?=some o→noDefer o.op=true)(hQ:¬LetsOut Q):∀{fuel:Nat}{A:Array Bool}{a:Act}{w:World},wpAny P md ops Q fuel A a w→wpAnyIn (FF ro) k P md ops Q fuel A a w
 |0,A,a,w,h=>h
 |fuel+1,A,a,w,h=>⟨h.1,fun i hi=>opAny_FF hnd hQ (fun a w hk=>any_FF hnd hQ hk) (h.2 i hi)⟩
theorem Post.in:¬LetsOut (Post D E n m φ st x s'):=by
 rintro⟨a,w,m',φ',μ',_,_,_,_,_,_,h⟩;cases x with
 |normal=>cases h
 |exit i=>cases h
 |ret=>cases h
 |pan v=>obtain⟨u,⟨c,h,_⟩,_⟩:=h;cases h
end
open Go Go.Hb
def LeadV(S:Nat→Bool)(x:PV):Prop:=∀k,∀j∈ids k x,S j=true
def LeadL(S:Nat→Bool)(l:List PV):Prop:=∀x∈l,LeadV S x
def LeadO(S:Nat→Bool):SO→Prop
 | .box _ cs | .frz cs=>LeadL S cs
 | .row _ _ _ xs=>LeadL S xs
 | .dead=>True
 | .lp ρ _ _ _ _=>∀p∈ρ,LeadV S p.2
 | .mp _ vs=>LeadL S vs
 | .ch _ q=>LeadL S q
def LeadS(S:Nat→Bool)(st:Sto):Prop:=∀(i:Nat) o,S i=true→st[i]?=some o→LeadO S o
structure Off (S:Nat→Bool) (st st':Sto):Prop where
 len:st.length≤st'.length
 at_:∀i,i<st.length→S i=false→st'[i]?=st[i]?
section
variable{S:Nat→Bool}{st st' st'':Sto}{C:Cfg}
theorem Off.refl(S:Nat→Bool)(st:Sto):Off S st st:=⟨Nat.le_refl _,fun _ _ _=>rfl⟩
theorem Off.trans(h:Off S st st')(k:Off S st' st''):Off S st st'':=⟨Nat.le_trans h.len k.len,fun i hi hs=>(k.at_ i (Nat.lt_of_lt_of_le hi h.len) hs).trans (h.at_ i hi hs)⟩
variable{r:AEnd}{e:Ev}{f:FuncId}{π:List Nat}{args cs l:List PV}{i:Nat}{x:PV}{o:SO}
theorem Off.set(h:S i=true):Off S st (st.set i o):=⟨by simp,fun j _ hj=>List.getElem?_set_ne (fun e=>by grind)⟩
theorem Off.push{l:Sto}:Off S st (st++l):=⟨by simp,fun j hj _=>List.getElem?_append_left hj⟩
theorem LeadL.flat{k:Nat}(h:LeadL S l):∀j∈l.flatMap (ids k),S j=true:=fun j hj=>by
 obtain⟨x,hx,hj⟩:=List.mem_flatMap.1 hj;exact h x hx k j hj
theorem lead_ag:LeadV S (.ag cs)↔LeadL S cs:=⟨fun h x hx k j hj=>h (k+1) j (List.mem_flatMap.2 ⟨x,hx,hj⟩),fun h k j hj=>by
 cases k with
 |zero=>simp[ids] at hj
 |succ k=>exact h.flat (k:=k) j hj⟩
theorem lead_tu:LeadV S (.tu cs)↔LeadL S cs:=⟨fun h x hx k j hj=>h (k+1) j (List.mem_flatMap.2 ⟨x,hx,hj⟩),fun h k j hj=>by
 cases k with
 |zero=>simp[ids] at hj
 |succ k=>exact h.flat (k:=k) j hj⟩
theorem lead_ci(h:LeadL S cs):LeadV S (.ci cs):=fun k j hj=>by
 cases k with
 |zero=>simp[ids] at hj
 |succ k=>exact h.flat (k:=k) j hj
theorem lead_fn{a b:List PV}:LeadV S (.fn f a b)↔LeadL S a∧LeadL S b:=⟨fun h=>⟨fun x hx k j hj=>h (k+1) j (List.mem_append.2 (.inl (List.mem_flatMap.2 ⟨x,hx,hj⟩))),fun x hx k j hj=>h (k+1) j (List.mem_append.2 (.inr (List.mem_flatMap.2 ⟨x,hx,hj⟩)))⟩,fun⟨h1,h2⟩ k j hj=>by
 cases k with
 |zero=>simp[ids] at hj
 |succ k=>
  rcases List.mem_append.1 hj with hj|hj
  ·exact h1.flat (k:=k) j hj
  ·exact h2.flat (k:=k) j hj⟩
theorem lead_ifc{t:TypeId}:LeadV S (.ifc t x)↔LeadV S x:=⟨fun h k j hj=>h (k+1) j hj,fun h k j hj=>by
 cases k with
 |zero=>simp[ids] at hj
 |succ k=>exact h k j hj⟩
theorem lead_none(h:∀k,ids k x=[]):LeadV S x:=fun k j hj=>by grind
theorem lead_id(h:LeadV S x)(hi:ids 1 x=[i]):S i=true:=h 1 i (by rw[hi];simp)
theorem inIds_lead:∀{n:Nat}{x:PV},inIds S n x=true→LeadV S x
 |0,x,h=>by simp[inIds] at h
 |n+1,x,h=>by
  have hall:∀{l:List PV},l.all (inIds S n)=true→LeadL S l:=fun hl x hx=>inIds_lead (List.all_eq_true.1 hl x hx)
  have hone:∀{x:PV}{i:Nat},S i=true→(∀k,ids k x=[]∨ids k x=[i])→LeadV S x:=fun hi he k j hj=>by
   grind
  cases x with
  |ag cs=>exact lead_ag.2 (hall h)
  |tu cs=>exact lead_tu.2 (hall h)
  |ci cs=>exact lead_ci (hall h)
  |fn g a b=>
   simp only[inIds,Bool.and_eq_true] at h;exact lead_fn.2 ⟨hall h.1,hall h.2⟩
  |ifc t x=>exact lead_ifc.2 (inIds_lead (n:=n) h)
  |ms id len=>exact hone h fun k=>by cases k<;>simp[ids]
  |bp id off=>exact hone h fun k=>by cases k<;>simp[ids]
  |yl id=>exact hone h fun k=>by cases k<;>simp[ids]
  |mr id=>exact hone h fun k=>by cases k<;>simp[ids]
  |cr id=>exact hone h fun k=>by cases k<;>simp[ids]
  |rp id len i off=>exact hone h fun k=>by cases k<;>simp[ids]
  |sc v=>exact lead_none fun k=>by cases k<;>rfl
  |sl b z xs=>exact lead_none fun k=>by cases k<;>rfl
  |cp cs=>exact lead_none fun k=>by cases k<;>rfl
  |un=>exact lead_none fun k=>by cases k<;>rfl
theorem inIds_leadL{n:Nat}(h:l.all (inIds S n)=true):LeadL S l:=fun x hx=>inIds_lead (List.all_eq_true.1 h x hx)
theorem soIn_lead(h:soIn S o=true):LeadO S o:=by
 cases o with
 |box T cs=>exact inIds_leadL h
 |frz cs=>exact inIds_leadL h
 |row p e z xs=>exact inIds_leadL h
 |dead=>trivial
 |lp ρ ps a b s=>exact fun p hp=>inIds_lead (List.all_eq_true.1 h p hp)
 |mp ks vs=>exact inIds_leadL h
 |ch c q=>exact inIds_leadL h
theorem LeadS.set(h:LeadS S st)(ho:LeadO S o):LeadS S (st.set i o):=fun j q hj hq=>by
 rcases Nat.decEq i j with hij|hij
 ·rw[List.getElem?_set_ne hij] at hq;exact h j q hj hq
 grind
theorem pubRow_off{id len:Nat}{y:PV}{st':Sto}(h:pubRow id len st=(y,st'))(hid:S id=true)(hs:LeadS S st):Off S st st'∧LeadS S st'∧LeadV S y:=by
 have hm:LeadV S (.ms id len):=fun k j hj=>by
  cases k with
  |zero=>simp[ids] at hj
  |succ k=>simp_all[ids,List.mem_singleton]
 unfold pubRow at h;split at h
 ·rename_i p e sz xs ho;split at h
  ·cases h;exact⟨Off.set hid,hs.set (show LeadL S xs from hs id _ hid ho),lead_none fun k=>by cases k<;>rfl⟩
  ·cases h;exact⟨Off.refl _ _,hs,hm⟩
 ·cases h;exact⟨Off.refl _ _,hs,hm⟩
theorem mapS_off{f:PV→Sto→Option (PV×Sto)}(hf:∀{x y:PV}{st st':Sto},f x st=some (y,st')→LeadV S x→LeadS S st→Off S st st'∧LeadS S st'∧LeadV S y):∀{xs ys:List PV}{st st':Sto},mapS f xs st=some (ys,st')→LeadL S xs→LeadS S st→Off S st st'∧LeadS S st'∧LeadL S ys
 |[],ys,st,st',h,_,hs=>by
  simp only[mapS,Option.some.injEq,Prod.mk.injEq] at h;obtain⟨rfl,rfl⟩:=h;exact⟨Off.refl _ _,hs,fun x hx=>by cases hx⟩
 |x::xs,ys,st,st',h,hx,hs=>by
  simp only[mapS] at h;split at h
  ·rename_i y st1 hy;split at h
   ·rename_i l st2 hl;cases h;obtain⟨h1,h2,h3⟩:=hf hy (hx x List.mem_cons_self) hs;obtain⟨h4,h5,h6⟩:=mapS_off hf hl (fun z hz=>hx z (List.mem_cons_of_mem _ hz)) h2
    exact⟨h1.trans h4,h5,fun z hz=>by
     rcases List.mem_cons.1 hz with rfl|hz
     ·exact h3
     ·exact h6 z hz⟩
   ·cases h
  ·cases h
theorem frzV_lead(h:LeadL S cs):LeadV S (frzV cs):=by
 unfold frzV;split
 ·exact lead_none fun k=>by cases k<;>rfl
 ·exact lead_ci h
theorem pubV_off:∀{C:Cfg}{n:Nat}{x y:PV}{st st':Sto},pubV C n x st=some (y,st')→LeadV S x→LeadS S st→Off S st st'∧LeadS S st'∧LeadV S y
 |_,0,_,_,_,_,h,_,_=>by simp[pubV] at h
 |C,n+1,x,y,st,st',h,hx,hs=>by
  have hl:=fun{C xs ys st st'}=>mapS_off (S:=S) (f:=pubV C n) (fun h hx hs=>pubV_off h hx hs) (xs:=xs) (ys:=ys) (st:=st) (st':=st')
  simp only[pubV] at h;split at h
  ·rename_i id len;simp only[Option.some.injEq] at h;exact pubRow_off h (lead_id hx rfl) hs
  ·rename_i id;have hid:S id=true:=lead_id hx rfl;split at h
   ·rename_i T cs ho;split at h
    ·split at h
     ·rename_i cs' st1 hm;obtain⟨h1,h2,h3⟩:=hl hm (hs id _ hid ho) hs;split at h
      ·cases h;exact⟨h1.trans (Off.set hid),h2.set h3,frzV_lead h3⟩
      ·cases h
     ·cases h
    ·cases h;exact⟨Off.refl _ _,hs,hx⟩
   ·rename_i cs ho;cases h;exact⟨Off.refl _ _,hs,frzV_lead (hs id _ hid ho)⟩
   ·cases h;exact⟨Off.refl _ _,hs,hx⟩
  ·split at h
   ·rename_i hm;cases h;obtain⟨h1,h2,h3⟩:=hl hm (lead_ag.1 hx) hs;exact⟨h1,h2,lead_ag.2 h3⟩
   ·cases h
  ·split at h
   ·rename_i hm;cases h;obtain⟨h1,h2,h3⟩:=hl hm (lead_tu.1 hx) hs;exact⟨h1,h2,lead_tu.2 h3⟩
   ·cases h
  ·split at h
   ·rename_i hm;split at h
    ·rename_i hm2;cases h;obtain⟨h1,h2,h3⟩:=hl hm (lead_fn.1 hx).1 hs;obtain⟨h4,h5,h6⟩:=hl hm2 (lead_fn.1 hx).2 h2;exact⟨h1.trans h4,h5,lead_fn.2 ⟨h3,h6⟩⟩
    ·cases h
   ·cases h
  ·split at h
   ·rename_i hm;cases h;obtain⟨h1,h2,h3⟩:=pubV_off hm (lead_ifc.1 hx) hs;exact⟨h1,h2,lead_ifc.2 h3⟩
   ·cases h
  ·cases h;exact⟨Off.refl _ _,hs,hx⟩
theorem LeadO.ids(h:LeadO S o):∀j∈idsSO o,S j=true:=by
 cases o with
 |box T cs=>exact LeadL.flat (k:=8) h
 |frz cs=>exact LeadL.flat (k:=8) h
 |row p e z xs=>exact LeadL.flat (k:=8) h
 |dead=>simp_all[idsSO]
 |lp ρ ps a b s=>
  intro j hj;obtain⟨p,hp,hj⟩:=List.mem_flatMap.1 hj;exact h p hp 8 j hj
 |mp ks vs=>exact LeadL.flat (k:=8) h
 |ch c q=>exact LeadL.flat (k:=8) h
theorem close_lead(hs:LeadS S st):∀{n:Nat}{work acc:List Nat},(∀i∈work,S i=true)→(∀i∈acc,S i=true)→∀i∈close st n work acc,S i=true
 |0,_,_,_,ha=>ha
 |n+1,[],_,_,ha=>ha
 |n+1,w::r,acc,hw,ha=>by
  simp only[close];split
  ·exact close_lead hs (fun i hi=>hw i (List.mem_cons_of_mem _ hi)) ha
  ·refine close_lead hs (fun i hi=>?_) (fun i hi=>?_)
   ·rcases List.mem_append.1 hi with h|h
    ·grind
    ·split at h
     ·rename_i o ho;exact(hs w o (hw w List.mem_cons_self) ho).ids i h
     ·simp at h
   grind
theorem putAll_off{g:Nat→Nat}:∀{π:List Nat}{os st:Sto},(∀i∈π,S i=true)→Off S st (putAll g π os st)
 |[],os,st,_=>by unfold putAll;exact Off.refl _ _
 |i::π,[],st,_=>by unfold putAll;exact Off.refl _ _
 |i::π,o::os,st,h=>by
  simp only[putAll];exact(Off.set (h i List.mem_cons_self)).trans (putAll_off fun j hj=>h j (List.mem_cons_of_mem _ hj))
theorem comeBack_off{st st1 st':Sto}{r':AEnd}(h:comeBack π st r st1=some (r',st'))(hπ:∀i∈π,S i=true):Off S st st':=by
 unfold comeBack at h;split at h
 ·cases h;exact(putAll_off hπ).trans Off.push
 ·cases h
theorem acallM_off{call:List PV→Sto→Option (AEnd×Sto)}{st st':Sto}(h:acallM call args π st=some (r,st'))(hπ:∀i∈π,S i=true):Off S st st':=by
 unfold acallM at h;split at h
 ·split at h
  ·exact comeBack_off h hπ
  ·cases h
 ·cases h
theorem acallS_off{st st':Sto}(h:acallS C e f args st=some (r,st'))(ha:LeadL S args)(hs:LeadS S st):Off S st st':=by
 unfold acallS at h;split at h
 ·cases h
 ·rename_i args1 st1 hh;obtain⟨h1,h2,h3⟩:Off S st st1∧LeadS S st1∧LeadL S args1:=by
   split at hh
   ·cases hh;exact⟨Off.refl _ _,hs,ha⟩
   ·exact mapS_off (fun h hx hs=>pubV_off h hx hs) hh ha hs
  split at h
  ·split at h
   ·split at h
    ·grind
    ·exact h1.trans (comeBack_off h fun i hi=>by cases hi)
   ·cases h
  ·exact h1.trans (acallM_off h fun i hi=>close_lead (acc:=[]) h2 h3.flat (fun i hi=>absurd hi List.not_mem_nil) i (List.mem_reverse.1 hi))
theorem touchC_off{st st':Sto}(h:acallS C e f args st=some (r,st'))(hi:i<st.length)(ht:(touchC st args).elem i=false):st'[i]?=st[i]?:=by
 unfold touchC at ht;simp only at ht;generalize close st 64 (args.flatMap (ids 8)) []=T at ht;split at ht
 ·rename_i hb;rw[Bool.and_eq_true] at hb;refine(acallS_off (S:=fun j=>T.elem j) h (inIds_leadL hb.2) (fun j o hj ho=>?_)).at_ i hi ht
  have:=List.all_eq_true.1 hb.1 j (by simpa using hj)
  simp only[ho] at this;exact soIn_lead this
 grind
theorem mapPut_off{P:Program}{T:TypeId}{k v:PV}{st st':Sto}(h:mapPut P st T x k v=some st')(hne:∀id,x=.mr id→id≠i):st'[i]?=st[i]?:=by
 unfold mapPut at h
 grind
theorem touch_off{ρ:AEnv}{op:Op}{st:Sto}{r:AR}(h:aS C e ρ st op=some r)(hi:i<st.length)(ht:(touch ρ st op).elem i=false):(match r with
  | .val _ st'=>st'[i]?=st[i]?
  | .unit st'=>st'[i]?=st[i]?
  | .pan _ _=>True):=by
 have hv:∀{x:Operand}{v:PV}{id:Nat},(touchV ρ x).elem i=false→aval ρ x=some v→ids 1 v=[id]→id≠i:=fun h1 h2 h3 e'=>by
  simp_all[touchV]
 have hpush:∀{l:Sto},(st++l)[i]?=st[i]?:=List.getElem?_append_left hi;cases op with
 |box T x=>
  grind [aS,sBox]
 |alloc T=>
  grind [aS,sAlloc]
 |store T x y=>
  simp only[aS,sStore] at h;split at h
  ·rename_i k p v h1 h2 h3;split at h
   ·obtain⟨st',h4,rfl⟩:=Option.map_eq_some_iff.1 h;unfold storeS at h4;split at h4
    ·rename_i id off;split at h4
     ·split at h4
      ·cases h4;exact List.getElem?_set_ne (hv ht h2 rfl)
      ·cases h4
     ·cases h4
    ·rename_i id len j off;split at h4
     ·split at h4
      ·split at h4
       ·cases h4;exact List.getElem?_set_ne (hv ht h2 rfl)
       ·cases h4
      ·cases h4
     ·cases h4
    ·cases h4
   ·cases h
  ·cases h
 |buildSlice T len parts=>
  simp only[aS,sBuildSlice] at h;repeat' split at h
  all_goals first|(cases h;done)|(cases h;grind)
 |slice T x lo hi' mx=>
  simp only[aS,sSlice] at h;split at h
  ·rename_i id len hx;have hne:id≠i:=hv ht hx rfl;split at h
   ·rename_i full sz xs st1 hp;split at h
    ·obtain⟨v,_,rfl⟩:=Option.map_eq_some_iff.1 h
     grind [pubRow]
    ·cases h
   ·cases h
  ·cases h
 |panic x=>
  grind [aS,sPanic]
 |convert s d x=>
  grind [aS,sConv]
 |makeMap T hh=>
  simp only[aS,sMakeMap] at h
  grind
 |makeChan T x=>
  grind [aS,sMakeChan]
 |makeSlice T x y=>
  simp only[aS,sMakeSlice] at h;repeat' split at h
  all_goals first|(cases h;done)|(cases h;exact hpush)
 |mapUpdate T x k y=>
  simp only[aS,sMapPut] at h;split at h
  ·rename_i u1 u2 u3 h1 h2 h3;obtain⟨st',h4,rfl⟩:=Option.map_eq_some_iff.1 h;exact mapPut_off h4 (fun id e=>hv ht h1 (by rw[e];rfl))
  ·cases h
 |insert T x k y=>
  simp only[aS,sMapPut] at h;split at h
  ·rename_i u1 u2 u3 h1 h2 h3;obtain⟨st',h4,rfl⟩:=Option.map_eq_some_iff.1 h;exact mapPut_off h4 (fun id e=>hv ht h1 (by rw[e];rfl))
  ·cases h
 |call c=>
  obtain⟨callee,xs,ts⟩:=c;cases callee with
  |value g=>
   simp only[aS,sCall] at h;split at h
   ·rename_i f a b vs hg hxs;split at h
    ·simp only[touch,hg,hxs] at ht;split at h
     ·rename_i rs st1 hc;cases h;exact touchC_off hc hi ht
     ·grind
     ·cases h
    ·cases h
   ·cases h
  |invoke r m=>simp[aS] at h
  |builtin b=>
   cases b with
   |append=>
    simp only[aS,sAppend] at h;split at h
    ·rename_i x y T U hxs _;split at h
     ·split at h
      ·rename_i a b by_ ha _ _;split at h
       ·split at h
        ·unfold appendS at h;split at h
         ·rename_i id len;simp only[touch,hxs] at ht;have hne:id≠i:=hv ht ha rfl
          grind
         ·grind
         ·cases h
        ·cases h
       ·cases h
      ·cases h
     ·rename_i t sz hTU ht2;split at h
      ·rename_i a b by_ ha _ _;unfold appendStr at h;split at h
       ·rename_i id len s _ _;simp only[touch,hxs] at ht;have hne:id≠i:=hv ht ha rfl
        grind
       ·cases h
      ·cases h
     ·cases h
    ·cases h
   |unsafeString=>
    simp only[aS] at h;split at h
    ·rename_i x n T U hxs _;simp only[touch,hxs] at ht;unfold sUnsafeStr at h;split at h
     ·rename_i id len mm hx _;have hne:id≠i:=hv ht hx rfl
      grind
     ·cases h
    ·cases h
   |_=>simp[aS] at h
 |_=>simp[aS] at h
end
end Go.Am

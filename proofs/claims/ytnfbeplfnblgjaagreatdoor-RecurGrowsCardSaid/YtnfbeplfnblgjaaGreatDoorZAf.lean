/- Functions that defer one closure, and closures that recover. Plain lemmas, no statement of the seat. -/
import Derived.Test.YtnfbeplfnblgjaaGreatDoorZAe
import Derived.RecoverIn
set_option linter.all false
namespace Go.Am
open Go Go.Hb
open Go.Gw (tk tf tz tsl tar tpl isAggD looks deps statOk)
section
variable{P:Program}{E:Entry}{m:Mem}{φ:Ph}{μ:Own}{st:Sto}{ρ:AEnv}{a:Act}{w:World}{C:Cfg}{e:Ev}{n:Nat}
theorem argE_get0:∀{vs:List PV}{i t:Nat}{x:PV},aget (argE i vs) t=some x→i≤t∧vs[t-i]?=some x
 |[],i,t,x,h=>by simp[argE,aget] at h
 |u::r,i,t,x,h=>by
  simp only[argE,aget] at h;split at h
  ·simp_all
  ·obtain⟨h3,h4⟩:=argE_get0 h
   grind
variable{ops:Array Oper}{c:Code}{u:FrameMode}{cs:List Frame}{r:List Oper}{d kk:Nat}{o:Oper}{v:Option PV}
theorem oper_monoQ{K K':Act→World→Prop}{Q Q':Exit→Act→World→Prop}(h:∀a w,K a w→K' a w)(hq:∀e a w,e≠.normal→Q e a w→Q' e a w)(hh:o.wpIn (FF none) kk P a w K Q):o.wpIn (FF none) kk P a w K' Q':=by
 have hl:LetsOut Q→LetsOut Q':=fun⟨a,w,h⟩=>⟨a,w,hq _ _ _ (by simp) h⟩
 unfold Oper.wpIn at *;refine⟨hh.1,?_⟩;have hh:=hh.2;generalize(o.semAt (FF none).round a.eval).run P w=r at *;cases r with
 |ok x w'=>
  cases x<;>simp only[Oper.uponIn] at hh⊢<;>
   first
    |exact h _ _ hh
    |exact⟨hh.1,CallsIn.mono hh.2 (fun e w'' he=>by grind)⟩
    |exact⟨hh.1,RowsIn.mono hh.2 (fun _ _ he=>h _ _ he)⟩
    |exact⟨hh.1,RoundIn.mono hh.2 (fun e w'' he=>by grind)⟩
 |halt x w'=>cases x<;>simp only[Oper.uponIn] at hh⊢<;>first|grind|exact hh
theorem wpListIn_mono{kk:Nat}{ops:Array Oper}{Q Q':Exit→Act→World→Prop}(hq:∀e a w,Q e a w→Q' e a w):∀{l:List Oper}{a:Act}{w:World},wpListIn (FF none) kk P ops Q l a w→wpListIn (FF none) kk P ops Q' l a w
 |[],a,w,h=>hq _ _ _ h
 |o::r,a,w,h=>by
  unfold wpListIn at h⊢;split at h
  ·rename_i hw;rw[if_pos hw];exact oper_monoQ (fun a w hk=>wpListIn_mono hq hk) (fun e a w _=>hq e a w) h
  ·rename_i hw;rw[if_neg hw];exact⟨h.1,wpListIn_mono hq h.2⟩
theorem wpListIn_app{kk:Nat}{ops:Array Oper}{Q:Exit→Act→World→Prop}{l2:List Oper}:∀{l:List Oper}{a:Act}{w:World},wpListIn (FF none) kk P ops (Exit.then (wpListIn (FF none) kk P ops Q l2) Q) l a w→wpListIn (FF none) kk P ops Q (l++l2) a w
 |[],a,w,h=>h
 |o::r,a,w,h=>by
  rw[List.cons_append];unfold wpListIn at h⊢;split at h
  ·rename_i hw;rw[if_pos hw];exact oper_monoQ (fun a w hk=>wpListIn_app hk) (fun e a w hne hq=>by
    cases e with
    |normal=>exact absurd rfl hne
    |_=>exact hq) h
  ·rename_i hw;rw[if_neg hw];exact⟨h.1,wpListIn_app h.2⟩
theorem region_rec{id:Nat}{Q:Exit→Act→List Frame→World→Prop}{Q0:List Frame→Exit→Act→World→Prop}(hops:ops.toList=o::r)(hrec:recOf o=some d)
  (h:∀v cs',(recoverD cs=some (v,cs')∨(recoverD cs=none∧v=.nilIface∧cs'=cs))→wpListIn (FF none) kk P ops (Q0 cs') r (a.put (some d) v) w) (hQ:∀cs' e a w,Q0 cs' e a w→Q e a cs' w):(Code.region id ops false).wpSIn (FF none) kk P Q a cs w:=by
 have ho:ops[0]?=some o:=by
  have:ops.toList[0]?=some o:=by rw[hops];rfl
  simpa using this
 have hsz:ops.size=r.length+1:=by grind [Array.length_toList]
 obtain⟨dst,op,ty,pos,after,gd⟩:=o;unfold recOf at hrec;split at hrec
 ·rename_i xs ts d' hop hg hd;simp only at hop hg hd;subst hop hg hd;split at hrec
  ·rename_i hxs;obtain rfl:d'=d:=Option.some.inj hrec;have hx0:xs = #[]:=by grind
   subst hx0;have hrun:(execOp a.eval ⟨some d',.call ⟨.builtin .recover,#[],ts⟩,ty,pos,after,none⟩).run P w=.ok .recover w:=by rfl
   intro b k hb hro hF hroom;have h0:(lone (b.atR a (.inRegion ops (List.range ops.size)::k)) cs w).fenced P (FF none):=by
    rw[hsz,List.range_eq_range',List.range'_succ];exact fenced_oper hF hroom ho (fun f hf=>trivial)
   have hw:Region.wanted ⟨some d',.call ⟨.builtin .recover,#[],ts⟩,ty,pos,after,none⟩ (yielded ops a.tmps)=true:=rfl;have hlist:List.range ops.size=0::List.range' 1 r.length:=by rw[hsz,List.range_eq_range',List.range'_succ]
   have hg:=stepGR_op (P:=P) (b:=b) (a:=a) (k:=k) (cs:=cs) (w:=w) (rest:=List.range' 1 r.length) ho hw;rw[hro,Oper.semAt_none] at hg;have hfin:∀v,(b.atR a (.inRegion ops (0::List.range' 1 r.length)::k)).finish v=b.atR (a.put (some d') v) (.inRegion ops (List.range' 1 r.length)::k):=by
    simp_all[Frame.finish_atR]
   have hk:(b.atR a (.inRegion ops (0::List.range' 1 r.length)::k)).kind=.deferred:=hb;have htr:=tryRecover_deferred hk cs;have hsub:∀j,r[j]?=ops[1+j]?:=fun j=>by
    have:ops.toList[1+j]?=r[j]?:=by grind
    rw[←this];simp
   have go:∀v cs',(recoverD cs=some (v,cs')∨(recoverD cs=none∧v=.nilIface∧cs'=cs))→cs'.length=cs.length→(stepG P true { frame:=b.atR a (.inRegion ops (0::List.range' 1 r.length)::k),callers:=cs,status:=.running,dying:=none } w).bare=.go { frame:=b.atR (a.put (some d') v) (.inRegion ops (List.range' 1 r.length)::k),callers:=cs',status:=.running,dying:=none } w →
     ∃e a' cs'' w',cs''.length=cs.length∧Q e a' cs'' w'∧ArrivesIn (Machine.fenced P (FF none)) P (lone (b.atR a (.code (.region id ops false)::k)) cs w) b k cs'' e a' w':=fun v cs' hv hlen hst=>by
    have h1:=h v cs' hv;have h2:wpOpsIn (FF none) kk P ops (Q0 cs') (List.range' 1 r.length) (a.put (some d') v) w:=by
     rw[wpOpsIn_eq_wpListIn r 1 hsub];exact h1
    obtain⟨e',a',w',hq,harr⟩:=wp_opsIn _ _ _ h2 b k cs' hro hF (hlen▸hroom);refine⟨e',a',cs',w',hlen,hQ _ _ _ _ hq,.of_steps (.head (fenced_calm hF hroom rfl) stepR_region (.one h0 ?_)) harr⟩;rw[hlist];exact step_lone_go hst
   cases hrc:recoverD cs with
   |some q=>
    obtain⟨v,cs'⟩:=q;refine go v cs' (.inl hrc) (recoverD_length hrc) ?_
    simp_all[Frame.atR,stepG.apply]
   |none=>
    simp_all[Frame.atR,stepG.apply]
  ·cases hrec
 ·cases hrec
theorem flat_ok{D:List Deferred}(hmix:C.P.follows .mixedOrders=true)(he:EvOk C e):∀{c:Code}{s s':AS}{x:AX}{m0:Mem}{φ0:Ph}{st0:Sto}{m:Mem}{φ:Ph}{μ:Own}{a:Act}{w:World},exec C e c s=some (x,s')→slots n c=true→flatC c=true→Mem.le m0 m→Ext st0 s.st φ0 φ→Sit E m φ μ s.st w→EnvR m φ s.env a→a.tmps.size=n→a.defers=D →
  c.wpIn (FF none) kk C.P (Post D E n m0 φ0 st0 x s') a w:=by
 intro c
 induction c with
 |skip=>
  intro s s' x m0 φ0 st0 m φ μ a w hx _ _ hm hxt hs h hn hD;simp only[exec,Option.some.injEq,Prod.mk.injEq] at hx;obtain⟨rfl,rfl⟩:=hx;exact wpIn_skip ⟨m,φ,μ,hm,hxt,hs,h,hn,hD,rfl⟩
 |region id ops draw=>
  intro s s' x m0 φ0 st0 m φ μ a w hx hsl _ hm hxt hs h hn hD;simp only[exec] at hx;split at hx
  ·exact wpIn_region_list (aops_ok he.call he.yield hx hsl hm hxt hs h hn hD)
  ·exact adraw_ok hmix he.call hx hsl hm hxt hs h hn hD
 |seq c1 c2 ih1 ih2=>
  intro s s' x m0 φ0 st0 m φ μ a w hx hsl hf hm hxt hs h hn hD;simp only[slots,Bool.and_eq_true] at hsl;simp only[flatC,Bool.and_eq_true] at hf;simp only[exec] at hx;cases h1:exec C e c1 s with
  |none=>simp[h1] at hx
  |some r=>
   obtain⟨x1,s1⟩:=r;rw[h1] at hx;refine wpIn_seq (Code.wpIn_mono (fun ex a' w' hp=>?_) (ih1 h1 hsl.1 hf.1 hm hxt hs h hn hD))
   obtain⟨m',φ',μ',q1,q2,q3,q4,q5,q6,q7⟩:=hp;cases x1 with
   |normal=>
    obtain rfl:=q7;exact ih2 hx hsl.2 hf.2 q1 q2 q3 q4 q5 q6
   |exit i=>
    obtain rfl:=q7;cases hx;exact⟨m',φ',μ',q1,q2,q3,q4,q5,q6,rfl⟩
   |ret=>
    obtain rfl:=q7;cases hx;exact⟨m',φ',μ',q1,q2,q3,q4,q5,q6,rfl⟩
   |pan y=>
    obtain⟨v,⟨ch,rfl,hch⟩,q8⟩:=q7;cases hx;exact⟨m',φ',μ',q1,q2,q3,q4,q5,q6,v,⟨ch,rfl,hch⟩,q8⟩
 |cond c1 c2 c3 ih1 ih2=>
  intro s s' x m0 φ0 st0 m φ μ a w hx hsl hf hm hxt hs h hn hD;simp only[slots,Bool.and_eq_true] at hsl;simp only[flatC,Bool.and_eq_true] at hf;simp only[exec] at hx;split at hx
  ·rename_i b hb;have hv:=(aval_R h hb).sc_eq;refine wpIn_cond_split hv (fun e'=>?_) (fun e'=>?_)
   ·grind
   grind
  ·cases hx
 |block id c1 ih=>
  intro s s' x m0 φ0 st0 m φ μ a w hx hsl hf hm hxt hs h hn hD;simp only[slots] at hsl;simp only[flatC] at hf;simp only[exec] at hx;cases h1:exec C e c1 s with
  |none=>simp[h1] at hx
  |some r=>
   obtain⟨x1,s1⟩:=r;rw[h1] at hx;refine wpIn_block (Code.wpIn_mono (fun ex a' w' hp=>?_) (ih h1 hsl hf hm hxt hs h hn hD))
   obtain⟨m',φ',μ',q1,q2,q3,q4,q5,q6,q7⟩:=hp;cases x1 with
   |normal=>
    obtain rfl:=q7;cases hx;exact⟨m',φ',μ',q1,q2,q3,q4,q5,q6,rfl⟩
   |exit i=>
    obtain rfl:=q7;simp only at hx;show if i=id then _ else _
    split at hx
    ·rename_i hb;cases hx;rw[if_pos (Nat.eq_of_beq_eq_true hb)];exact⟨m',φ',μ',q1,q2,q3,q4,q5,q6,rfl⟩
    ·rename_i hb;cases hx;rw[if_neg (fun e'=>by subst e';simp at hb)]
     exact⟨m',φ',μ',q1,q2,q3,q4,q5,q6,rfl⟩
   |ret=>
    obtain rfl:=q7;cases hx;exact⟨m',φ',μ',q1,q2,q3,q4,q5,q6,rfl⟩
   |pan y=>
    obtain⟨v,⟨ch,rfl,hch⟩,q8⟩:=q7;cases hx;exact⟨m',φ',μ',q1,q2,q3,q4,q5,q6,v,⟨ch,rfl,hch⟩,q8⟩
 |exit i=>
  intro s s' x m0 φ0 st0 m φ μ a w hx _ _ hm hxt hs h hn hD;simp only[exec,Option.some.injEq,Prod.mk.injEq] at hx;obtain⟨rfl,rfl⟩:=hx;exact wpIn_exit ⟨m,φ,μ,hm,hxt,hs,h,hn,hD,rfl⟩
 |ret=>
  intro s s' x m0 φ0 st0 m φ μ a w hx _ _ hm hxt hs h hn hD;simp only[exec,Option.some.injEq,Prod.mk.injEq] at hx;obtain⟨rfl,rfl⟩:=hx;exact wpIn_ret ⟨m,φ,μ,hm,hxt,hs,h,hn,hD,rfl⟩
 |_=>
  intro s s' x m0 φ0 st0 m φ μ a w hx hsl hf;simp[flatC] at hf
theorem recR_form(h:recR c=some (ops,d,r)):∃id o,c=.region id ops false∧ops.toList=o::r∧recOf o=some d:=by
 unfold recR at h
 grind
theorem recC_form{rest:Code}(h:recC c=some (ops,d,r,rest)):∃id o,(c=.seq (.region id ops false) rest∨(c=.region id ops false∧rest=.skip))∧ops.toList=o::r∧recOf o=some d:=by
 unfold recC at h;split at h
 ·split at h
  ·rename_i hr;cases h;obtain⟨id,o,rfl,h2,h3⟩:=recR_form hr
   grind
  ·cases h
 ·split at h
  ·rename_i hr;cases h;obtain⟨id,o,rfl,h2,h3⟩:=recR_form hr
   grind
  ·cases h
theorem recOf_dst(h:recOf o=some d):o.dst=some d:=by
 grind [recOf]
def ModeR(m:Mem)(φ:Ph)(v:Option PV)(u:FrameMode):Prop:=match v with
 |none=>u=.returning
 |some x=>∃uv c,u=.panicking c∧PanL uv c∧R m φ x uv
def DoneR(m:Mem)(φ:Ph)(o:Option PV)(en:Ending)(u:FrameMode):Prop:=match o with
 |none=>(∃x,en=.returned x)∧settle u=.returning
 |some y=>∃c uy,en=.panicked c∧(∃c',raised u c=.panicking c'∧PanL uy c')∧R m φ y uy
def Mended(u:FrameMode):Prop:=settle u=.returning∧∀c uy,PanL uy c→∃c',raised u c=.panicking c'∧PanL uy c'
theorem mended_ret:Mended .returning:=⟨rfl,fun c uy h=>⟨c,rfl,h⟩⟩
theorem mended_pan{v:Value}{ol:List PanicEntry}(h:∀p∈ol,p.goexit=false):Mended (.panicking (⟨v,true,false⟩::ol)):=by
 refine⟨?_,fun c uy ⟨ol',h1,h2⟩=>⟨_,rfl,ol'++(⟨v,true,false⟩::ol),by rw[h1];rfl,fun p hp=>?_⟩⟩
 ·have h2:ol.dropWhile (!·.goexit)=[]:=by
   induction ol with
   |nil=>rfl
   |cons p r ih=>
    simp_all
  simp only[settle,h2]
 grind
theorem recover_R{c₀:Frame}(hc:c₀.mode=u)(hu:ModeR m φ v u){x:Value}{cs':List Frame}(h:recoverD (c₀::cs)=some (x,cs')∨(recoverD (c₀::cs)=none∧x=.nilIface∧cs'=c₀::cs)):
  ∃u1,cs'={ c₀ with mode:=u1 }::cs∧Mended u1∧R m φ (nilOr v) x:=by
 subst hc;cases v with
 |none=>
  have hu:c₀.mode=.returning:=hu;have hn:recoverD (c₀::cs)=none:=by simp[recoverD,hu]
  rcases h with h|⟨_,rfl,rfl⟩
  ·rw[hn] at h;cases h
  ·exact⟨.returning,by rw[←hu],mended_ret,.sc rfl⟩
 |some y=>
  obtain⟨uv,c,hu,⟨ol,rfl,hol⟩,hr⟩:=hu;have hn:recoverD (c₀::cs)=some (uv,{ c₀ with mode:=.panicking ({ v:=uv,recovered:=true }::ol) }::cs):=by simp[recoverD,hu]
  rcases h with h|⟨h,_⟩
  ·rw[hn] at h;cases h;exact⟨_,rfl,mended_pan hol,hr⟩
  grind
theorem dcall_ok(hmix:C.P.follows .mixedOrders=true)(hP:slotsP C.P=true)(he:EvOk C e){D:FuncId}{args:List PV}{o:Option PV}{st':Sto}(hx:dcallF C e D args v st=some (o,st')){vs:List Value}(hs:Sit E m φ μ st w)(hr:Rl m φ args vs)(hu:ModeR m φ v u):
  CallsDIn (FF none) kk C.P D vs.toArray u w fun en u' w'=>∃m' φ' μ',Mem.le m m'∧Ext st st' φ φ'∧Sit E m' φ' μ' st' w'∧DoneR m' φ' o en u':=by
 unfold dcallF at hx;split at hx;rotate_left
 ·cases hx
 rename_i fn hfn;split at hx;rotate_left
 ·cases hx
 rename_i c hc;split at hx;rotate_left
 ·cases hx
 rename_i ops d r rest hrec;split at hx;rotate_left
 ·cases hx
 rename_i hb;simp only[Bool.and_eq_true,Bool.not_eq_true'] at hb;obtain⟨hble,_,hres,hcut,hflat⟩:=hb;obtain⟨id,o0,hform,hops,ho0⟩:=recC_form hrec;have hslots:slots fn.ntmps c=true:=by
  have:=List.all_eq_true.1 hP fn (List.mem_of_getElem? (l:=C.P.funcs.toList) (i:=D) (a:=fn) (by simpa using hfn))
  grind
 have hsl:(ops.toList.all fun o=>dstOk fn.ntmps o.dst&&noDefer o.op)=true∧slots fn.ntmps rest=true:=by
  rcases hform with rfl|⟨rfl,rfl⟩
  ·simp_all[slots,Bool.and_eq_true]
  ·exact⟨hslots,rfl⟩
 have hsl1:=hsl.1;rw[hops,List.all_cons,Bool.and_eq_true,Bool.and_eq_true,recOf_dst ho0] at hsl1;obtain⟨⟨hd,_⟩,hsr⟩:=hsl1;have hsz:vs.length≤fn.ntmps:=by rw[←hr.1];simp_all
 have hsize:(vs.toArray++Array.replicate (fn.ntmps-vs.toArray.size) undef).size=fn.ntmps:=by simp;omega
 generalize hact:({ tmps:=vs.toArray++Array.replicate (fn.ntmps-vs.toArray.size) undef,defers:=[] }:Act)=act0;have hn0:act0.tmps.size=fn.ntmps:=by grind
 have hD0:act0.defers=[]:=by rw[←hact]
 have henv:EnvR m φ (argE 0 args) act0:=fun t y ht=>by
  obtain⟨_,h2⟩:=argE_get0 ht;simp only[Nat.sub_zero] at h2;obtain⟨v,h3,h4⟩:=hr.get h2
  grind
 have hresr:∀(a':Act) (w':World),(results fn a'.tmps).run C.P w'=.ok (.tuple #[]) w':=fun a' w'=>by
  simp_all[results]
 refine callsDIn_of_wpSIn hfn hc trivial fun c₀ cs hc₀=>?_
 rw[hact]
 -- the end
 have fin:∀(q:AX×AS) u1,Mended u1→dend q=some (o,st')→∀ex a' w',Post [] E fn.ntmps m φ st q.1 q.2 ex a' w'→bodyPostS C.P fn c₀ cs (fun en u' w'=>∃m' φ' μ',Mem.le m m'∧Ext st st' φ φ'∧Sit E m' φ' μ' st' w'∧DoneR m' φ' o en u') ex a' ({ c₀ with mode:=u1 }::cs) w':=fun q u1 hu1 hq ex a' w' ⟨m',φ',μ',p1,p2,p3,p4,p5,p6,p7⟩=>by
  obtain⟨x,s⟩:=q;cases x with
  |normal=>
   obtain rfl:=p7;simp only[dend,Option.some.injEq,Prod.mk.injEq] at hq;obtain⟨rfl,rfl⟩:=hq;exact⟨p6,u1,rfl,_,hresr a' w',m',φ',μ',p1,p2,p3,⟨_,rfl⟩,hu1.1⟩
  |ret=>
   obtain rfl:=p7;simp only[dend,Option.some.injEq,Prod.mk.injEq] at hq;obtain⟨rfl,rfl⟩:=hq;exact⟨p6,u1,rfl,_,hresr a' w',m',φ',μ',p1,p2,p3,⟨_,rfl⟩,hu1.1⟩
  |pan y=>
   obtain⟨uy,⟨ch,rfl,hch⟩,q8⟩:=p7;simp only[dend,Option.some.injEq,Prod.mk.injEq] at hq;obtain⟨rfl,rfl⟩:=hq;exact⟨p6,u1,rfl,m',φ',μ',p1,p2,p3,ch,uy,rfl,hu1.2 ch uy hch,q8⟩
  |exit i=>simp[dend] at hq
 have first:∀{x1:AX}{s1:AS},aops C e ops r ⟨aput (some d) (nilOr v) (argE 0 args),st⟩=some (x1,s1)→∀{Q:Exit→Act→List Frame→World→Prop},(∀u1 ex a' w',Mended u1→Post [] E fn.ntmps m φ st x1 s1 ex a' w'→Q ex a' ({ c₀ with mode:=u1 }::cs) w')→(Code.region id ops false).wpSIn (FF none) kk C.P Q act0 (c₀::cs) w:=fun{x1 s1} hops' {Q} hQ=>by
  refine region_rec (Q0:=fun cs' ex a' w'=>∃u1,cs'={ c₀ with mode:=u1 }::cs∧Mended u1∧Post [] E fn.ntmps m φ st x1 s1 ex a' w') hops ho0 (fun x cs' hx'=>?_) (fun cs' ex a' w' ⟨u1,h1,h2,h3⟩=>h1▸hQ u1 ex a' w' h2 h3)
  obtain⟨u1,h1,h2,h3⟩:=recover_R hc₀ hu hx';have hl:=aops_ok (D:=[]) (k:=kk) (ro:=none) (E:=E) he.call he.yield hops' hsr (Mem.le.refl m) (Ext.refl st φ) hs ((henv).put hn0 hd h3) (by rw[put_size];exact hn0) (by rw[put_defers];exact hD0)
  simp_all
 cases h1:aops C e ops r ⟨aput (some d) (nilOr v) (argE 0 args),st⟩ with
 |none=>simp[h1] at hx
 |some q=>
  obtain⟨x1,s1⟩:=q;rw[h1] at hx;have nn:x1≠.normal→dend (x1,s1)=some (o,st'):=fun hne=>by
   grind
  rcases hform with rfl|⟨rfl,rfl⟩
  ·refine wpSIn_seq (first h1 fun u1 ex a' w' hu1 hp=>?_)
   by_cases hx1:x1=.normal
   ·subst hx1;have hp0:=hp;obtain⟨m',φ',μ',p1,p2,p3,p4,p5,p6,p7⟩:=hp;obtain rfl:=p7;simp only at hx;cases h2:exec C e rest s1 with
    |none=>simp[h2] at hx
    |some q2=>
     rw[h2] at hx;have hw:=flat_ok (D:=[]) (kk:=kk) hmix he h2 hsl.2 hflat p1 p2 p3 p4 p5 p6;exact wpSIn_of_wpIn rfl (wpIn_mono hw fun ex a2 w2 hp2=>fin q2 u1 hu1 hx ex a2 w2 hp2)
   ·have:=fin (x1,s1) u1 hu1 (nn hx1) ex a' w' hp;obtain⟨m',φ',μ',p1,p2,p3,p4,p5,p6,p7⟩:=hp;cases x1 with
    |normal=>exact absurd rfl hx1
    |exit i=>obtain rfl:=p7;exact this
    |ret=>obtain rfl:=p7;exact this
    |pan y=>obtain⟨uy,⟨ch,rfl,hch⟩,q8⟩:=p7;exact this
  ·refine first h1 fun u1 ex a' w' hu1 hp=>?_
   by_cases hx1:x1=.normal
   ·subst hx1;simp only[exec] at hx;exact fin (.normal,s1) u1 hu1 hx ex a' w' hp
   ·exact fin (x1,s1) u1 hu1 (nn hx1) ex a' w' hp
theorem cutR_form{g:Operand}(h:cutR c=some (ops,o,g)):∃id ty pos after ts t2,c=.region id ops false∧ops.toList=[o,⟨none,.defer ⟨.value g,#[],ts⟩,ty,pos,after,t2⟩]∧t2=none:=by
 unfold cutR at h;split at h
 ·split at h
  ·rename_i o' d hops;split at h
   ·rename_i g' hdo hg hd;cases h;obtain⟨dst,op,ty,pos,after,gd⟩:=d;simp only at hdo hg hd;subst hg hd;unfold defOf at hdo;split at hdo
    ·rename_i g2 xs ts;split at hdo
     ·simp_all
     ·cases hdo
    ·cases hdo
   ·cases h
  ·cases h
 ·cases h
def DefR(m:Mem)(φ:Ph)(cl:PV)(d:Deferred):Prop:=match cl with
 | .fn D p q=>∃us ws,d={ target:=.fn (.func D) (List.toArray ws),args:=List.toArray us }∧Rl m φ p us∧Rl m φ q ws
 |_=>False
def PostD(E:Entry)(n:Nat)(m:Mem)(φ:Ph)(st:Sto)(x:AX)(s':AS)(cl:Option PV)(ex:Exit)(a':Act)(w':World):Prop:=match cl with
 |none=>PostM [] E n m φ st x s' ex a' w'
 |some c=>∃d,(∃m1 φ1,DefR m1 φ1 c d∧∃m' φ' μ',Mem.le m1 m'∧Le φ1 φ'∧Mem.le m m'∧Ext st s'.st φ φ'∧Sit E m' φ' μ' s'.st w'∧EnvR m' φ' s'.env a'∧a'.tmps.size=n∧Marks [d] E a'.defers w'∧XR m' φ' x ex)
theorem execD_ok(hmix:C.P.follows .mixedOrders=true)(he:EvOk C e):∀{c:Code}{s s':AS}{x:AX}{cl:Option PV}{m0:Mem}{φ0:Ph}{st0:Sto}{m:Mem}{φ:Ph}{μ:Own}{a:Act}{w:World},execD C e c s=some (x,s',cl)→slotsD n c=true→(∀id,st0.length≤id→φ0 id=none)→Mem.le m0 m→Ext st0 s.st φ0 φ→Sit E m φ μ s.st w→EnvR m φ s.env a→a.tmps.size=n→a.defers=[] →
  c.wpIn (FF none) kk C.P (PostD E n m0 φ0 st0 x s' cl) a w:=by
 intro c;have plain:∀{c:Code},slotsD n c=slots n c→(∀s,execD C e c s=match exec C e c s with
  |some (x,s1)=>some (x,s1,none)
  |none=>none)→∀{s s':AS}{x:AX}{cl:Option PV}{m0:Mem}{φ0:Ph}{st0:Sto}{m:Mem}{φ:Ph}{μ:Own}{a:Act}{w:World},execD C e c s=some (x,s',cl)→slotsD n c=true→(∀id,st0.length≤id→φ0 id=none)→Mem.le m0 m→Ext st0 s.st φ0 φ→Sit E m φ μ s.st w→EnvR m φ s.env a→a.tmps.size=n→a.defers=[]→c.wpIn (FF none) kk C.P (PostD E n m0 φ0 st0 x s' cl) a w:=fun{c} hsl hex {s s' x cl m0 φ0 st0 m φ μ a w} hx hd hd0 hm hxt hs h hn hD=>by
  rw[hex] at hx;cases h1:exec C e c s with
  |none=>simp[h1] at hx
  |some q=>
   obtain⟨x1,s1⟩:=q;rw[h1] at hx;cases hx;exact exec_ok (B:=[]) (ro:=none) hmix he h1 (hsl▸hd) (fun e'=>by cases e') hd0 hm hxt hs h hn (by rw[hD];exact Marks.nil)
 induction c with
 |seq c1 c2 ih1 ih2=>
  intro s s' x cl m0 φ0 st0 m φ μ a w hx hsl hd0 hm hxt hs h hn ha0;simp only[execD] at hx;simp only[slotsD] at hsl;split at hx
  ·rename_i ops o g hc;rw[hc] at hsl;simp only[Bool.and_eq_true] at hsl;split at hx
   ·rename_i s1 h1;split at hx
    ·rename_i D p q hg;split at hx
     ·rename_i x2 s2 h2;cases hx;obtain⟨id,ty,pos,after,ts,t2,rfl,hops,rfl⟩:=cutR_form hc;refine wpIn_seq (wpIn_region_list ?_);rw[hops];refine wpListIn_app (l:=[o]) (wpListIn_mono (fun ex a1 w1 hp=>?_) (aops_ok (D:=[]) (k:=kk) (ro:=none) (E:=E) he.call he.yield h1 (by grind) hm hxt hs h hn ha0))
      obtain⟨m1,φ1,μ1,q1,q2,q3,q4,q5,q6,q7⟩:=hp;obtain rfl:=q7;show wpListIn _ _ _ _ _ _ _ _
      have rg:=aval_R q4 hg;generalize heg:a1.eval g=eg at rg;cases rg with
      | @fn _ _ _ _ us ws hl hl' hi hi'=>
       refine wpListIn_plain rfl fun K hK=>?_
       refine⟨fun _ _=>trivial,?_⟩
       have hrun:((⟨none,.defer ⟨.value g,#[],ts⟩,ty,pos,after,none⟩:Oper).semAt (FF none).round a1.eval).run C.P w1=.ok (.defer { target:=.fn (.func D) ws.toArray,args:=us.toArray }) w1:=by
        show(execOp a1.eval ⟨none,.defer ⟨.value g,#[],ts⟩,ty,pos,after,none⟩).run C.P w1=_
        simp[execOp,resolve,Deferred.ofValue,heg]
       rw[hrun];refine hK _ _ ?_;show(Exit.then _ _) _ _ _
       refine wpIn_mono (exec_ok (B:=[{ target:=.fn (.func D) ws.toArray,args:=us.toArray }]) (ro:=none) (kk:=kk) (a:={ a1 with defers:={ target:=.fn (.func D) ws.toArray,args:=us.toArray }::a1.defers }) (m0:=m1) (φ0:=φ1) (st0:=s1.st) hmix he h2 hsl.2 (fun e'=>by cases e') q3.dom (Mem.le.refl m1) (Ext.refl s1.st φ1) q3 (fun t y ht=>q4 t y ht) q5 (by
        show Marks _ _ (_::a1.defers) _
        rw[q6];exact Marks.nil)) fun ex a2 w2 ⟨m2,φ2,μ2,p1,p2,p3,p4,p5,p6,p7⟩=>?_
       exact⟨_,m1,φ1,⟨us,ws,rfl,⟨hl,hi⟩,⟨hl',hi'⟩⟩,m2,φ2,μ2,p1,p2.le,q1.trans p1,q2.trans p2,p3,p4,p5,p6,p7⟩
     ·cases hx
    ·cases hx
   ·cases hx
  ·rename_i hc;rw[hc] at hsl;simp only[Bool.and_eq_true] at hsl;cases h1:exec C e c1 s with
   |none=>simp[h1] at hx
   |some r=>
    obtain⟨x1,s1⟩:=r;rw[h1] at hx;refine wpIn_seq (Code.wpIn_mono (fun ex a' w' hp=>?_) (flat_ok (D:=[]) hmix he h1 hsl.1 hsl.2.1 hm hxt hs h hn ha0))
    obtain⟨m',φ',μ',q1,q2,q3,q4,q5,q6,q7⟩:=hp;have hM:Marks [] E a'.defers w':=by rw[q6];exact Marks.nil
    cases x1 with
    |normal=>
     obtain rfl:=q7;exact ih2 hx hsl.2.2 hd0 q1 q2 q3 q4 q5 q6
    |exit i=>
     obtain rfl:=q7;cases hx;exact⟨m',φ',μ',q1,q2,q3,q4,q5,hM,rfl⟩
    |ret=>
     obtain rfl:=q7;cases hx;exact⟨m',φ',μ',q1,q2,q3,q4,q5,hM,rfl⟩
    |pan y=>
     obtain⟨v,⟨ch,rfl,hch⟩,q8⟩:=q7;cases hx;exact⟨m',φ',μ',q1,q2,q3,q4,q5,hM,v,⟨ch,rfl,hch⟩,q8⟩
 |_=>exact plain rfl fun s=>rfl
end
end Go.Am

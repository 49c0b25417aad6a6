/- Calls and loops of the plain machine, with whatever fuel: the model does the same. Plain lemmas, no statement of the seat. -/
import Derived.Test.YtnfbeplfnblgjaaGreatDoorZAf
set_option linter.all false
namespace Go.Am
open Go Go.Hb
open Go.Gw (tk tf tz tsl tar tpl isAggD)
section
variable{P:Program}{E:Entry}{m:Mem}{φ:Ph}{μ:Own}{st:Sto}{ρ:AEnv}{a:Act}{w:World}{C:Cfg}{e:Ev}{n:Nat}
theorem canon_get:∀{ks:List Nat}{ρ ρ':AEnv},canon ks ρ=some ρ'→∀{t:Nat}{x:PV},aget ρ' t=some x→aget ρ t=some x
 |[],ρ,ρ',h,t,x,hx=>by
  simp_all[canon,mapO,Option.some.injEq,aget]
 |k::ks,ρ,ρ',h,t,x,hx=>by
  unfold canon at h;obtain⟨y,r',rfl,h1,h2⟩:=mapO_cons h;split at h1
  ·rename_i v hv;cases h1;simp only[aget] at hx;split at hx
   ·simp_all
   ·exact canon_get (ks:=ks) h2 hx
  ·cases h1
theorem sweep_get{k0:Nat}{acc:List Nat}:∀{k:Nat}{st:Sto}{i:Nat}{o:SO},(sweep k0 acc k st)[i]?=some o→st[i]?=some o∨(o=.dead∧k0≤k+i)
 |_,[],i,o,h=>by simp[sweep] at h
 |k,q::r,i,o,h=>by
  cases i with
  |zero=>
   grind [sweep,List.getElem?_cons_zero,Option.some.injEq,Bool.or_eq_false_iff,Nat.blt_eq]
  |succ i=>
   simp only[sweep,List.getElem?_cons_succ] at h;rcases sweep_get h with h1|h1
   ·grind
   grind
theorem sweep_length{k0:Nat}{acc:List Nat}:∀{k:Nat}{st:Sto},(sweep k0 acc k st).length=st.length
 |_,[]=>rfl
 |k,q::r=>by simp[sweep,sweep_length]
theorem trim_get:∀{k:Nat}{st:Sto}{i:Nat}{o:SO},(trim k st)[i]?=some o→st[i]?=some o
 |_,[],i,o,h=>by simp[trim] at h
 |0,q::r,i,o,h=>by
  simp only[trim] at h;split at h
  ·simp at h
  ·cases i with
   |zero=>simpa using h
   |succ i=>simpa using trim_get (k:=0) (show(trim 0 r)[i]?=some o by simpa using h)
 |k+1,q::r,i,o,h=>by
  simp only[trim] at h;cases i with
  |zero=>simpa using h
  |succ i=>simpa using trim_get (k:=k) (show(trim k r)[i]?=some o by simpa using h)
theorem trim_length:∀{k:Nat}{st:Sto},(trim k st).length≤st.length∧(k≤st.length→k≤(trim k st).length)
 |_,[]=>by simp[trim]
 |0,q::r=>by
  simp only[trim];split
  ·simp
  ·have:=(trim_length (k:=0) (st:=r)).1
   grind
 |k+1,q::r=>by
  have:=trim_length (k:=k) (st:=r)
  simp_all[trim,List.length_cons]
variable{r:AEnd}{s:AS}{x:AX}{a':Act}{as bd:Code}{ex:Exit}{fn:Func}{f:FuncId}{ρ':List (Nat×PV)}{ps:List Nat}{rs rs':List PV}{m0:Mem}{i k0 l:Nat}{φ0 φ1:Ph}{st' st0 st1:Sto}{w':World}
theorem gc_ok{ρ:AEnv}(hk:st0.length≤k0)(hk1:k0≤st1.length)(hd0:∀id,k0≤id→φ0 id=none)(hxt:Ext st0 st1 φ0 φ1)(hs:Sit E m φ1 μ st1 w):
  ∃φ2 μ2,k0≤(gc k0 ρ st1).length∧Ext st0 (gc k0 ρ st1) φ0 φ2∧Sit E m φ2 μ2 (gc k0 ρ st1) w∧∀p∈ρ,∀v,R m φ1 p.2 v→R m φ2 p.2 v:=by
 have same:∃φ2 μ2,k0≤st1.length∧Ext st0 st1 φ0 φ2∧Sit E m φ2 μ2 st1 w∧∀p∈ρ,∀v,R m φ1 p.2 v→R m φ2 p.2 v:=⟨φ1,μ,hk1,hxt,hs,fun _ _ _ h=>h⟩
 unfold gc;split
 ·exact same
 ·simp only;generalize hst2:trim k0 (sweep k0 _ 0 st1)=st2;split
  ·rename_i hb;rw[Bool.and_eq_true] at hb;have hget:∀(i:Nat) (o:SO),st2[i]?=some o→st1[i]?=some o∨(o=.dead∧k0≤i):=fun i o hi=>by
    rw[←hst2] at hi;have:=sweep_get (trim_get hi)
    grind
   have hlen:st2.length≤st1.length:=by
    rw[←hst2];exact Nat.le_trans trim_length.1 (Nat.le_of_eq sweep_length)
   have hlen0:k0≤st2.length:=by
    rw[←hst2];exact trim_length.2 (by rw[sweep_length];exact hk1)
   obtain⟨μ2,p1,p2⟩:=hs.sto.fewer hlen (fun i o hi=>(hget i o hi).imp id (fun e=>e.1))
   have hf:∀i,i<st2.length→Nat.blt i st2.length=true:=fun i hi=>by simp_all
   refine⟨only (fun i=>Nat.blt i st2.length) φ1,μ2,hlen0,⟨fun id=>?_,Nat.le_trans hk hlen0,fun id hid=>?_⟩,⟨hs.good.drop p1,p2.only (fun i _ hi=>hf i (by omega)) hb.2,fun id hid=>?_⟩,fun p hp v hv=>?_⟩
   ·by_cases hlt:id<k0
    ·have:only (fun i=>Nat.blt i st2.length) φ1 id=φ1 id:=by grind [only]
     rw[this];exact hxt.le id
    grind
   ·have hlt:=(List.getElem?_eq_some_iff.1 hid).1;obtain⟨d1,d2⟩:=hxt.dead id hid
    grind [only]
   ·grind [Nat.blt_eq,only]
   ·exact R.only _ 8 (List.all_eq_true.1 hb.1 p hp) hv
  ·exact same
theorem Sit.take(hs:Sit E m φ μ st w){b:Nat}{x:Option (List Deferred)}{o:Obj}(hb:w.heap[b]?=some (.deferred x))(hE:E.w.heap.size≤b):Sit E m φ μ st (w.putObj b o):=by
 have hoth:∀{c},c≠b→(w.putObj b o).heap[c]?=w.heap[c]?:=fun h=>World.putObj_heap_other h
 refine⟨⟨hs.good.os,hs.good.tape,hs.good.output,by simpa using hs.good.size,fun c hc hF=>(hoth (by omega)).trans (hs.good.keep c hc hF),fun c k v hv=>?_,hs.good.mem,hs.good.fresh,fun r hr=>Res.holds_of (hs.good.holds r hr) (fun c hc=>hoth (fun e=>hs.notMark hb r hr (by rw[hc,e]))),hs.good.feet,hs.good.apart,fun c cs hc=>⟨?_,(hs.good.glob c cs hc).2⟩⟩,hs.sto,hs.dom⟩
 rotate_left
 ·obtain⟨cs',T,fr,hp,h1⟩:=(hs.good.glob c cs hc).1
  grind
 obtain⟨cc,T,fr,h1,h2⟩:=hs.good.sub c k v hv
 grind
theorem leavesL_ok{fn:Func}{tmps:Array Value}{R:Ending→World→Prop}{u:FrameMode}{kk:Nat}{B:List Deferred}(hu:u≠.run):∀{D:List Deferred}{w:World},MarksL E D w→Sit E m φ μ st w→(∀w',Sit E m φ μ st w'→LeavesInM (FF none) kk P fn tmps R B u w')→LeavesInM (FF none) kk P fn tmps R (D++B) u w
 |[],w,_,hs,h=>h w hs
 |d::D,w,hM,hs,h=>by
  obtain⟨b,rfl,h2,h3⟩:=hM.at_ d List.mem_cons_self;refine⟨hu,.inl ⟨b,_,rfl,run_takeDeferred h2,?_⟩⟩;refine leavesL_ok hu ⟨fun d' hd'=>?_,(List.pairwise_cons.1 hM.apart).2⟩ (hs.take h2 h3) h
  obtain⟨b',q1,q2,q3⟩:=hM.at_ d' (List.mem_cons_of_mem _ hd');refine⟨b',q1,(World.putObj_heap_other (fun e=>?_)).trans q2,q3⟩
  subst e;exact(List.pairwise_cons.1 hM.apart).1 d' hd' q1.symm
theorem leaves_ok{tmps:Array Value}{R:Ending→World→Prop}{u:FrameMode}{kk:Nat}{B:List Deferred}(hu:u≠.run){D:List Deferred}{w:World}(hM:Marks B E D w)(hs:Sit E m φ μ st w)(h:∀w',Sit E m φ μ st w'→LeavesInM (FF none) kk P fn tmps R B u w'):LeavesInM (FF none) kk P fn tmps R D u w:=by
 obtain⟨D1,rfl,hM⟩:=hM;exact leavesL_ok hu hM hs h
theorem argE_get:∀{vs:List PV}{i t:Nat}{x:PV},aget (argE i vs) t=some x→i≤t∧vs[t-i]?=some x
 |[],i,t,x,h=>by simp[argE,aget] at h
 |u::r,i,t,x,h=>by
  simp only[argE,aget] at h;split at h
  ·simp_all
  ·obtain⟨h3,h4⟩:=argE_get h
   grind
theorem resP_ok{r:ResultVar}{x:PV}(hs:Sit E m φ μ s.st w)(h:EnvR m φ s.env a)(hx:resP C.P s r=some x):∃v,(Gw.resM a.tmps r).run C.P w=.ok v w∧R m φ x v:=by
 unfold resP at hx;split at hx
 ·rename_i t;obtain⟨v,h1,h2⟩:=h t x hx
  simp_all[Gw.resM,Array.getD_eq_getD_getElem?]
 ·rename_i t T;split at hx
  ·rename_i p ag k hp ht;obtain⟨u,h1,h2⟩:=h t p hp;obtain⟨b,off,v,rfl,h3,h4⟩:=loadS_run hs ht hx h2
   simp_all[Gw.resM,Array.getD_eq_getD_getElem?,asAddr]
  ·cases hx
theorem resPs_ok{s:AS}(hs:Sit E m φ μ s.st w)(h:EnvR m φ s.env a):∀{rs:List ResultVar}{xs:List PV},mapO (resP C.P s) rs=some xs→∃vs,(rs.mapM (m:=Sem) (Gw.resM a.tmps)).run C.P w=.ok vs w∧Rl m φ xs vs
 |[],xs,hx=>by
  simp only[mapO,Option.some.injEq] at hx;subst hx;exact⟨[],by simp,.nil⟩
 |r::rs,xs,hx=>by
  obtain⟨x,xs',rfl,h1,h2⟩:=mapO_cons hx;obtain⟨v,h3,h4⟩:=resP_ok hs h h1;obtain⟨vs,h5,h6⟩:=resPs_ok hs h h2;exact⟨v::vs,by simp_all,.cons h4 h6⟩
theorem uptoL_get:∀(n k j:Nat),j<n→(uptoL k n)[j]?=some (k+j)
 |0,k,j,h=>by omega
 |n+1,k,j,h=>by
  cases j with
  |zero=>simp[uptoL]
  |succ j=>
   have:=uptoL_get n (k+1) j (by omega)
   grind [uptoL,List.getElem?_cons_succ]
theorem uptoL_length:∀(n k:Nat),(uptoL k n).length=n
 |0,k=>rfl
 |n+1,k=>by simp[uptoL,uptoL_length n]
theorem uptoL_mem:∀(n k j:Nat),j∈uptoL k n↔k≤j∧j<k+n
 |0,k,j=>by simp[uptoL]
 |n+1,k,j=>by
  simp only[uptoL,List.mem_cons,uptoL_mem n];omega
theorem uptoL_nodup:∀(n k:Nat),(uptoL k n).Nodup
 |0,k=>List.nodup_nil
 |n+1,k=>by
  simp only[uptoL,List.nodup_cons,uptoL_mem];exact⟨by omega,uptoL_nodup n _⟩
theorem livesL_lt:∀{st:Sto}{k j:Nat},j∈livesL k st→k≤j∧j<k+st.length
 |[],k,j,h=>by simp[livesL] at h
 |o::r,k,j,h=>by
  have rest:j∈livesL (k+1) r→k≤j∧j<k+(o::r).length:=fun h=>by
   have:=livesL_lt h
   grind
  unfold livesL at h
  grind
theorem livesL_nodup:∀{st:Sto}{k:Nat},(livesL k st).Nodup
 |[],k=>by simp[livesL]
 |o::r,k=>by
  unfold livesL;split
  ·exact livesL_nodup
  ·exact List.nodup_cons.2 ⟨fun h=>by have:=livesL_lt h;omega,livesL_nodup⟩
theorem livesL_off:∀{st:Sto}{k i:Nat}{o:SO},st[i]?=some o→k+i∉livesL k st→o=.dead
 |[],k,i,o,h,_=>by simp at h
 |q::r,k,i,o,h,hn=>by
  unfold livesL at hn;cases i with
  |zero=>
   grind
  |succ i=>
   have hn':k+1+i∉livesL (k+1) r:=by
    grind
   exact livesL_off (by simpa using h) hn'
theorem squeeze_ok{st:Sto}{φ:Ph}(hk:st0.length≤k0)(hk1:k0≤st.length)(hd0:∀id,k0≤id→φ0 id=none)(hxt:Ext st0 st φ0 φ)(hs:Sit E m φ μ st w)(hq:squeeze k0 rs st=(rs',st')):
  ∃φ2 μ2,Ext st0 st' φ0 φ2∧Sit E m φ2 μ2 st' w∧∀vs,Rl m φ rs vs→Rl m φ2 rs' vs:=by
 have same:∃φ2 μ2,Ext st0 st φ0 φ2∧Sit E m φ2 μ2 st w∧∀vs,Rl m φ rs vs→Rl m φ2 rs vs:=⟨φ,μ,hxt,hs,fun _ h=>h⟩
 unfold squeeze at hq;obtain⟨π,hπ⟩:∃π,π=uptoL 0 k0++livesL k0 (st.drop k0):=⟨_,rfl⟩;rw[←hπ] at hq;have hn:π.Nodup:=by
  rw[hπ,List.nodup_append];refine⟨uptoL_nodup _ _,livesL_nodup,fun a ha b hb=>?_⟩
  rw[uptoL_mem] at ha;have:=livesL_lt hb;omega
 have hlo:∀j,j<k0→π[j]?=some j:=fun j hj=>by
  rw[hπ,List.getElem?_append_left (by rw[uptoL_length];exact hj),uptoL_get _ _ _ hj,Nat.zero_add]
 have hlen:k0≤π.length:=by
  grind
 have hoff:∀(i:Nat) (o:SO),st[i]?=some o→i∉π→o=.dead:=fun i o ho hi=>by
  rw[hπ,List.mem_append,not_or,uptoL_mem] at hi;have hge:k0≤i:=by omega
  refine livesL_off (st:=st.drop k0) (k:=k0) (i:=i-k0) ?_ ?_
  ·grind
  grind
 unfold squeezeBy at hq;split at hq
 ·cases hq;exact same
 ·split at hq
  ·rename_i st2 hin hf;cases hq;have hst:=fetch_ok hf;obtain⟨φ2,hφ2⟩:∃φ2:Ph,φ2=fun j=>match π[j]? with
    |some i=>φ i
    |none=>none:=⟨_,rfl⟩
   have hφ2':∀{j i:Nat},π[j]?=some i→φ2 j=φ i:=fun{j i} h=>by grind
   have hel:∀{i:Nat},(π.elem i)=true→i∈π:=fun h=>by simpa using h
   have hg0:∀i,(fun i=>π.elem i) i=true→φ2 ((fun i=>place i 0 π) i)=φ i:=fun i hi=>by
    obtain⟨j,h1,h2⟩:=place_at (k:=0) (hel hi)
    grind
   have hlt:∀i∈π,i<st.length:=fun i hi=>by
    obtain⟨j,h2⟩:=List.getElem?_of_mem hi
    grind
   obtain⟨L,hL1,hL2,hL3⟩:=hs.sto.list;have hltL:∀i∈π,i<L.length:=fun i hi=>by grind
   obtain⟨Ls,hLs⟩:∃Ls:List Own,Ls=π.map fun i=>L.getD i []:=⟨_,rfl⟩
   have hLsl:Ls.length=π.length:=by simp[hLs]
   have hsr0:SR m φ2 0 st' Ls.flatten:=SR.ofList (by rw[hLsl,hst.1]) fun j o rs h1 h2=>by
    have hj:j<π.length:=by grind
    have hpj:π[j]?=some π[j]:=List.getElem?_eq_getElem hj;obtain⟨o0,q1,q2,q3⟩:=hst.2 j _ hpj;rw[h1] at q3;cases q3;rw[hLs,List.getElem?_map,hpj] at h2;simp only[Option.map_some,Option.some.injEq] at h2;have hlj:=hltL _ (List.getElem_mem hj);have hLg:L[π[j]]?=some rs:=by grind
    have:=hL3 _ o0 rs q1 hLg;rw[Nat.zero_add] at this⊢;exact this.ren hg0 q2 (hφ2' hpj)
   have hnil:(setAll π (π.map fun _=>([]:Own)) L).flatten=[]:=by
    rw[List.flatten_eq_nil_iff]
    intro x hx;obtain⟨i,hi⟩:=List.getElem?_of_mem hx;have hil:i<L.length:=by grind [setAll_length]
    by_cases hm:i∈π
    ·obtain⟨j,hj⟩:=List.getElem?_of_mem hm;have hjl:j<π.length:=(List.getElem?_eq_some_iff.1 hj).1;rw[setAll_at hn hil hj (show(π.map fun _=>([]:Own))[j]?=some [] by grind)] at hi
     cases hi;rfl
    ·rw[setAll_other hm] at hi;have ho:st[i]?=some st[i]:=List.getElem?_eq_getElem (by omega)
     have hdead:=hoff i _ ho hm;rw[hdead] at ho;have:=hL3 i _ _ ho hi;exact this
   have hperm:μ.Perm Ls.flatten:=by
    have:=setAll_perm (π:=π) (rss:=π.map fun _=>([]:Own)) (L:=L) hn hltL (by simp)
    have hz:(π.map fun _=>([]:Own)).flatten=[]:=by simp
    rw[hz,List.nil_append,hL2,hnil,List.nil_append,←hLs] at this;exact this.symm
   refine⟨φ2,Ls.flatten,⟨fun id=>?_,by rw[hst.1];omega,fun id hid=>?_⟩,⟨hs.good.perm hperm,hsr0,fun id hid=>?_⟩,fun vs hr=>hr.ren hg0 hin⟩
   ·rcases Nat.lt_or_ge id k0 with h|h
    ·rw[hφ2' (hlo id h)];exact hxt.le id
    grind
   ·have hl:=(List.getElem?_eq_some_iff.1 hid).1;obtain⟨d1,d2⟩:=hxt.dead id hid;obtain⟨o,q1,_,q3⟩:=hst.2 id id (hlo id (by omega))
    rw[d1] at q1;cases q1;exact⟨q3,by grind⟩
   grind
  ·cases hq;exact same
theorem squeeze_len{st:Sto}(hk:k0≤st.length)(hq:squeeze k0 rs st=(rs',st')):k0≤st'.length:=by
 unfold squeeze squeezeBy at hq;split at hq
 ·cases hq;exact hk
 ·split at hq
  ·rename_i st2 hin hf;cases hq;have hst:=fetch_ok hf
   simp_all[List.length_append,uptoL_length]
  ·cases hq;exact hk
theorem rezip_get:∀{ρ:AEnv}{vs:List PV}{t:Nat}{y:PV},aget (rezip ρ vs) t=some y→∃(i:Nat) (x:PV),ρ[i]?=some (t,x)∧vs[i]?=some y
 |[],vs,t,y,h=>by simp[rezip,aget] at h
 |(k,x)::r,[],t,y,h=>by simp[rezip,aget] at h
 |(k,x)::r,v::vs,t,y,h=>by
  simp only[rezip,aget] at h;split at h
  ·rename_i hb;have hkt:=Nat.eq_of_beq_eq_true hb;subst hkt;cases h;exact⟨0,x,rfl,rfl⟩
  ·obtain⟨i,x',h1,h2⟩:=rezip_get h;exact⟨i+1,x',by simpa using h1,by simpa using h2⟩
theorem canon_mem:∀{ks:List Nat}{ρ ρ':AEnv},canon ks ρ=some ρ'→∀p∈ρ',aget ρ p.1=some p.2
 |[],ρ,ρ',h,p,hp=>by
  simp_all[canon,mapO,Option.some.injEq]
 |k::ks,ρ,ρ',h,p,hp=>by
  unfold canon mapO at h;split at h
  ·rename_i y hy;split at h
   ·rename_i l hl;cases h;split at hy
    ·rename_i v hv;cases hy;rcases List.mem_cons.1 hp with rfl|hp
     ·exact hv
     ·exact canon_mem (ks:=ks) hl p hp
    ·cases hy
   ·cases h
  ·cases h
theorem loopF_ok(hmix:C.P.follows .mixedOrders=true)(he:EvOk C e):LoopOk C.P (loopF C e):=by
 intro ks k0 c s x s' hx ro B E n m0 φ0 st0 m φ μ a w hsl hR hk hk1 hd0 hm hxt hs h hn hD b k cs hro;unfold loopF at hx;cases h1:exec C e c s with
 |none=>simp[h1] at hx
 |some r=>
  obtain⟨x1,s1⟩:=r;rw[h1] at hx;obtain⟨ex,a₁,w₁,hq,harr⟩:=exec_ok (ro:=ro) (kk:=0) (n:=n) (E:=E) hmix he h1 hsl hR (Sit.dom hs) (Mem.le.refl m) (Ext.refl s.st φ) hs h hn hD b (.inLoop c::k) cs hro trivial (room_wide _);obtain⟨m',φ',μ',q1,q2,q3,q4,q5,q6,q7⟩:=hq;cases x1 with
  |normal=>
   obtain rfl:=q7;simp only at hx;split at hx
   ·rename_i ρ hc;have henv:EnvR m' φ' ρ a₁:=fun t y ht=>q4 t y (canon_get hc ht)
    obtain⟨φ2,μ2,g1,g2,g3,g4'⟩:=gc_ok (ρ:=ρ) hk (Nat.le_trans hk1 q2.len) hd0 (hxt.trans q2) q3;have g4:EnvR m' φ2 ρ a₁:=fun t y ht=>by
     obtain⟨v,p1,p2⟩:=henv t y ht;obtain⟨p,p3,rfl⟩:=aget_mem ht
     grind
    obtain⟨φ3,μ3,k1,k2,k3,k4⟩:∃φ3 μ3,k0≤(again C k0 ρ s1.st).2.length∧Ext st0 (again C k0 ρ s1.st).2 φ0 φ3∧Sit E m' φ3 μ3 (again C k0 ρ s1.st).2 w₁∧EnvR m' φ3 (again C k0 ρ s1.st).1 a₁:=by
     cases hsz:C.sqz with
     |false=>
      grind [again]
     |true=>
      obtain⟨Z,hZ⟩:∃Z,Z=squeeze k0 (ρ.map (·.2)) (gc k0 ρ s1.st):=⟨_,rfl⟩
      have e:again C k0 ρ s1.st=(rezip ρ Z.1,Z.2):=by simp_all[again]
      rw[e];have hall:∀p∈ρ,∃v,a₁.tmps[p.1]?=some v∧R m' φ2 p.2 v:=fun p hp=>by
       obtain⟨v,p1,p2⟩:=q4 _ _ (canon_mem hc p hp)
       grind
      have hrl:Rl m' φ2 (ρ.map (·.2)) (ρ.map fun p=>(a₁.tmps[p.1]?).getD default):=by
       refine⟨by simp,fun i c v hc1 hv1=>?_⟩
       grind
      obtain⟨φ3,μ3,k1,k2,k3⟩:=squeeze_ok (rs:=ρ.map (·.2)) (rs':=Z.1) (st':=Z.2) hk g1 hd0 g2 g3 hZ.symm
      refine⟨φ3,μ3,squeeze_len g1 hZ.symm,k1,k2,fun t y ht=>?_⟩
      obtain⟨i,x,hi1,hi2⟩:=rezip_get ht;have hr:=(k3 _ hrl).2 i y ((a₁.tmps[t]?).getD default) hi2 (by grind)
      obtain⟨v,w1,w2⟩:=hall _ (List.mem_of_getElem? hi1)
      grind
    obtain⟨e₂,a₂,w₂,hq₂,harr₂⟩:=he.loop ks k0 c _ x s' hx ro B E n m0 φ0 st0 m' φ3 μ3 a₁ w₁ hsl hR hk k1 hd0 (hm.trans q1) k2 k3 k4 q5 q6 b k cs hro;exact⟨e₂,a₂,w₂,hq₂,.of_steps (StepsIn.trans harr (.one (fenced_wide _ _) stepR_inLoop)) harr₂⟩
   ·cases hx
  |exit i=>
   obtain rfl:=q7;cases hx;exact⟨_,a₁,w₁,⟨m',φ',μ',hm.trans q1,hxt.trans q2,q3,q4,q5,q6,rfl⟩,.pass (x:=.inLoop c) rfl (fun _ _=>.inl (by simp)) harr⟩
  |ret=>
   obtain rfl:=q7;cases hx;exact⟨_,a₁,w₁,⟨m',φ',μ',hm.trans q1,hxt.trans q2,q3,q4,q5,q6,rfl⟩,.pass (x:=.inLoop c) rfl (fun _ _=>.inl (by simp)) harr⟩
  |pan y=>
   obtain⟨v,⟨ch,rfl,hch⟩,q8⟩:=q7;cases hx;exact⟨_,a₁,w₁,⟨m',φ',μ',hm.trans q1,hxt.trans q2,q3,q4,q5,q6,v,⟨ch,rfl,hch⟩,q8⟩,.pass (x:=.inLoop c) rfl (fun _ _=>.inl (by simp)) harr⟩
theorem aret_ok{st2:Sto}{vs:List Value}(hk:st0.length=k0)(hd0:∀id,k0≤id→φ0 id=none)(hxt:Ext st0 st1 φ0 φ1)(hs:Sit E m φ1 μ st1 w)(hr:Rl m φ1 rs vs)(hx:aret C f k0 rs st1=some (rs',st2)):
  ∃m' φ2 μ2,Mem.le m m'∧Ext st0 st2 φ0 φ2∧Sit E m' φ2 μ2 st2 w∧Rl m' φ2 rs' vs:=by
 unfold aret at hx;split at hx
 ·rename_i rs1 stp hp;obtain⟨m',μ',e1,e2,e3,e4⟩:∃m' μ',Mem.le m m'∧Ext st1 stp φ1 φ1∧Sit E m' φ1 μ' stp w∧Rl m' φ1 rs1 vs:=by
   split at hp
   ·cases hp;exact⟨m,μ,Mem.le.refl m,Ext.refl _ _,hs,hr⟩
   ·exact pubL_ok hp hs hr
  split at hx
  ·rename_i hb;rw[Bool.and_eq_true] at hb;cases hx;have hx2:=hxt.trans e2;have hlen:(stp.take k0).length=k0:=by have:=hx2.len;simp;omega
   obtain⟨μ2,p1,p2⟩:=e3.sto.fewer (st':=stp.take k0) (by simp;omega) (fun i o hi=>.inl (by
    grind))
   have hf:∀i,i<k0→Nat.blt i k0=true:=fun i hi=>by simp_all
   refine⟨m',only (fun i=>Nat.blt i k0) φ1,μ2,e1,⟨fun id=>?_,by omega,fun id hid=>?_⟩,⟨e3.good.drop p1,p2.only (fun i _ hi=>hf i (by omega)) hb.2,fun id hid=>?_⟩,(e4.pure hb.1).any⟩
   ·by_cases hlt:id<k0
    ·have:only (fun i=>Nat.blt i k0) φ1 id=φ1 id:=by grind [only]
     rw[this];exact hx2.le id
    grind
   ·have hlt:=(List.getElem?_eq_some_iff.1 hid).1;obtain⟨d1,d2⟩:=hx2.dead id hid
    grind [only]
   grind [Nat.blt_eq,only]
  ·simp only[Option.some.injEq] at hx;have hx2:=hxt.trans e2;obtain⟨φ2,μ2,g1,g2,g3,g4⟩:=gc_ok (ρ:=rs1.map fun r=>(0,r)) (Nat.le_of_eq hk) (by have:=hx2.len;omega) hd0 hx2 e3
   obtain⟨φ3,μ3,k1,k2,k3⟩:=squeeze_ok (Nat.le_of_eq hk) g1 hd0 g2 g3 hx;refine⟨m',φ3,μ3,e1,k1,k2,k3 vs ⟨e4.1,fun i c v hc hv=>g4 (0,c) ?_ v (e4.2 i c v hc hv)⟩⟩
   grind
 ·cases hx
theorem panS_ok{v:PV}{u:Value}(hk:st0.length=k0)(hd0:∀id,k0≤id→φ0 id=none)(hxt:Ext st0 st1 φ0 φ1)(hs:Sit E m φ1 μ st1 w)(hr:R m φ1 v u):
  ∃φ2 μ2,Ext st0 (panS k0 v st1) φ0 φ2∧Sit E m φ2 μ2 (panS k0 v st1) w∧R m φ2 v u:=by
 unfold panS;split
 ·rename_i hb;rw[Bool.and_eq_true] at hb;have hlen:(st1.take k0).length=k0:=by have:=hxt.len;simp;omega
  obtain⟨μ2,p1,p2⟩:=hs.sto.fewer (st':=st1.take k0) (by simp;omega) (fun i o hi=>.inl (by
   grind))
  have hf:∀i,i<k0→Nat.blt i k0=true:=fun i hi=>by simp_all
  have e4:Rl m φ1 [v] [u]:=⟨rfl,fun i c x hc hx=>by
   grind⟩
  have e5:Rl m (only (fun i=>Nat.blt i k0) φ1) [v] [u]:=(e4.pure (n:=8) (by grind)).any
  refine⟨only (fun i=>Nat.blt i k0) φ1,μ2,⟨fun id=>?_,by omega,fun id hid=>?_⟩,⟨hs.good.drop p1,p2.only (fun i _ hi=>hf i (by omega)) hb.2,fun id hid=>?_⟩,e5.2 0 v u rfl rfl⟩
  ·by_cases hlt:id<k0
   ·have:only (fun i=>Nat.blt i k0) φ1 id=φ1 id:=by grind [only]
    rw[this];exact hxt.le id
   grind
  ·have hlt:=(List.getElem?_eq_some_iff.1 hid).1;obtain⟨d1,d2⟩:=hxt.dead id hid
   grind [only]
  grind [Nat.blt_eq,only]
 grind
def NatOk(C:Cfg):Prop:=∀f F,C.nat f=some F→DoesOk (CallD C.P f) F
theorem ret_ok(hd0:∀id,st0.length≤id→φ0 id=none)(hxt:Ext st0 s.st φ0 φ)(hs:Sit E m φ μ s.st w)(h:EnvR m φ s.env a')
  (hx:(match mapO (resP C.P s) fn.results.toList with
   |some rs=>match aret C f st0.length rs s.st with
    |some (rs,st)=>some (AEnd.ret rs,st)
    |none=>none
   |none=>none)=some (r,st')):∃v,(results fn a'.tmps).run C.P w=.ok v w∧∃m2 φ2 μ2,Ext st0 st' φ0 φ2∧Sit E m2 φ2 μ2 st' w∧EndR m2 φ2 r (.returned v):=by
 split at hx
 ·rename_i rs hrs;split at hx
  ·rename_i rs2 st2 har;cases hx;obtain⟨us,h1,h2⟩:=resPs_ok (C:=C) hs h hrs;obtain⟨m2,φ2,μ2,h3,h4,h5,h6⟩:=aret_ok rfl hd0 hxt hs h2 har;refine⟨Gw.tup us,?_,m2,φ2,μ2,h4,h5,us,rfl,h6⟩;have h0:results fn a'.tmps=(do
     let vs ←fn.results.mapM (Gw.resM a'.tmps)
     pure (if h:vs.size=1 then vs[0] else .tuple vs)):=by
    unfold results;congr 1
   rw[h0,Sem.run_bind,Array.mapM_eq_mapM_toList,Sem.run_map,h1];simp only[Result.andThen_ok,Sem.run_pure,List.size_toArray];congr 1;match us with
   |[]=>simp[Gw.tup]
   |[v]=>simp[Gw.tup]
   |u::v::r=>simp[Gw.tup]
  ·cases hx
 ·cases hx
theorem endF_ok(hd0:∀id,st0.length≤id→φ0 id=none)(hx:endF C f fn st0.length x s=some (r,st'))(hp:PostM [] E n m0 φ0 st0 x s ex a' w'):
  bodyPostM (FF none) 0 C.P fn (fun en w'=>∃m' φ' μ',Ext st0 st' φ0 φ'∧Sit E m' φ' μ' st' w'∧EndR m' φ' r en) ex a' w':=by
 obtain⟨m',φ',μ',q1,q2,q3,q4,q5,q6,q7⟩:=hp;cases x with
 |normal=>
  obtain rfl:=q7;simp only[endF] at hx;exact leaves_ok (by simp) q6 q3 fun w'' hs''=>ret_ok hd0 q2 hs'' q4 hx
 |ret=>
  obtain rfl:=q7;simp only[endF] at hx;exact leaves_ok (by simp) q6 q3 fun w'' hs''=>ret_ok hd0 q2 hs'' q4 hx
 |pan y=>
  obtain⟨v,⟨ch,rfl,hch⟩,q8⟩:=q7;simp only[endF,Option.some.injEq,Prod.mk.injEq] at hx;obtain⟨rfl,rfl⟩:=hx;exact leaves_ok (by simp) q6 q3 fun w'' hs''=>(let⟨φ2,μ2,a1,a2,a3⟩:=panS_ok rfl hd0 q2 hs'' q8;⟨m',φ2,μ2,a1,a2,v,⟨ch,rfl,hch⟩,a3⟩)
 |exit i=>simp[endF] at hx
theorem endD_ok(hmix:C.P.follows .mixedOrders=true)(hP:slotsP C.P=true)(he:EvOk C e){cl:Option PV}(hd0:∀id,st0.length≤id→φ0 id=none)(hx:endD C e f fn st0.length x s cl=some (r,st'))(hp:PostD E n m0 φ0 st0 x s cl ex a' w'):
  bodyPostM (FF none) 0 C.P fn (fun en w'=>∃m' φ' μ',Ext st0 st' φ0 φ'∧Sit E m' φ' μ' st' w'∧EndR m' φ' r en) ex a' w':=by
 cases cl with
 |none=>exact endF_ok hd0 hx hp
 |some c=>
  simp only[endD] at hx;split at hx
  ·rename_i D p q v hv;obtain⟨dd,m1,φ1,⟨us,ws,rfl,hus,hws⟩,m',φ',μ',p0,p1,q1,q2,q3,q4,q5,q6,q7⟩:=hp;cases hdc:dcallF C e D (p++q) v s.st with
   |none=>simp[hdc] at hx
   |some o=>
    obtain⟨o,st1⟩:=o;rw[hdc] at hx;have hcall:Gw.callable C.P D=true:=by
     unfold dcallF at hdc
     grind
    have main:∀u:FrameMode,u≠.run→ModeR m' φ' v u→∀w'',Sit E m' φ' μ' s.st w''→LeavesInM (FF none) 0 C.P fn a'.tmps (fun en w'=>∃m' φ' μ',Ext st0 st' φ0 φ'∧Sit E m' φ' μ' st' w'∧EndR m' φ' r en) [{ target:=.fn (.func D) ws.toArray,args:=us.toArray }] u w'':=fun u hu hm w'' hs''=>by
     refine⟨hu,.inr ⟨fun h=>(by cases h),.func D,ws.toArray,D,(us++ws).toArray,rfl,?_,fun _ _=>trivial,?_⟩⟩
     ·unfold Gw.callable at hcall;split at hcall
      ·rename_i fnD hfD;rw[Bool.and_eq_true] at hcall;cases hb:fnD.body with
       |none=>simp[hb] at hcall
       |some body=>
        simp_all[invoke,callFunc]
      ·cases hcall
     ·have hargs:Rl m' φ' (p++q) (us++ws):=(hus.append hws).mono p0 p1;refine CallsDIn.mono (dcall_ok (kk:=0-1) hmix hP he hdc hs'' hargs hm) fun en u' w3 ⟨m2,φ2,μ2,k1,k2,k3,k4⟩=>?_
      cases o with
      |none=>
       obtain⟨⟨y,rfl⟩,hset⟩:=k4;show LeavesInM _ _ _ _ _ _ [] (settle u') w3
       rw[hset];exact ret_ok hd0 (q2.trans k2) k3 (s:=⟨s.env,st1⟩) (fun t y ht=>(let⟨v,h1,h2⟩:=q4 t y ht;⟨v,h1,h2.mono k1 k2.le⟩)) hx
      |some y=>
       obtain⟨c,uy,rfl,⟨c',hr1,hr2⟩,hr3⟩:=k4;simp only[Option.some.injEq,Prod.mk.injEq] at hx;obtain⟨rfl,rfl⟩:=hx;show LeavesInM _ _ _ _ _ _ [] (raised u' c) w3
       rw[hr1];obtain⟨φ3,μ3,a1,a2,a3⟩:=panS_ok rfl hd0 (q2.trans k2) k3 hr3;exact⟨m2,φ3,μ3,a1,a2,uy,⟨c',rfl,hr2⟩,a3⟩
    cases x with
    |normal=>
     obtain rfl:=q7;simp only[panOf,Option.some.injEq] at hv;subst hv;exact leaves_ok (by simp) q6 q3 fun w'' hs''=>main .returning (by simp) rfl w'' hs''
    |ret=>
     obtain rfl:=q7;simp only[panOf,Option.some.injEq] at hv;subst hv;exact leaves_ok (by simp) q6 q3 fun w'' hs''=>main .returning (by simp) rfl w'' hs''
    |pan y=>
     obtain⟨uv,⟨ch,rfl,hch⟩,q8⟩:=q7;simp only[panOf,Option.some.injEq] at hv;subst hv;exact leaves_ok (by simp) q6 q3 fun w'' hs''=>main (.panicking ch) (by simp) ⟨uv,ch,rfl,hch,q8⟩ w'' hs''
    |exit i=>simp[panOf] at hv
  ·cases hx
theorem callF_ok(hmix:C.P.follows .mixedOrders=true)(hP:slotsP C.P=true)(hnat:NatOk C)(he:EvOk C e):CallOk C.P (callF C e):=by
 intro f args st r st' hx w m φ μ vs hs hr;unfold callF at hx;split at hx
 ·rename_i F hF;exact hnat f F hF args st r st' hx w m φ μ vs hs hr
 ·split at hx
  ·rename_i fn hfn;split at hx
   ·rename_i c hc;split at hx;rotate_left
    ·cases hx
    rename_i hble;have hslots:(match cutC c with
      |true=>slotsD fn.ntmps c
      |false=>slots fn.ntmps c)=true:=by
     have:=List.all_eq_true.1 hP fn (by
      grind)
     rwa [hc] at this
    have hsz:vs.length≤fn.ntmps:=by rw[←hr.1];simp_all
    have hsize:(vs.toArray++Array.replicate (fn.ntmps-vs.toArray.size) undef).size=fn.ntmps:=by simp;omega
    have henv:EnvR m φ (argE 0 args) { tmps:=vs.toArray++Array.replicate (fn.ntmps-vs.toArray.size) undef,defers:=[] }:=fun t y ht=>by
     obtain⟨_,h2⟩:=argE_get ht;simp only[Nat.sub_zero] at h2;obtain⟨v,h3,h4⟩:=hr.get h2
     grind
    split at hx
    ·rename_i hcut;rw[hcut] at hslots;split at hx
     ·rename_i x s hex;exact(callsIn_wide (n:=0)).1 (callsIn_of_wp_marks (F:=FF none) hfn hc trivial (wpIn_mono (exec_ok (B:=[]) (ro:=none) (n:=fn.ntmps) (E:=⟨w,m,feetOf μ⟩) hmix he hex hslots (fun e'=>by cases e') hs.dom (Mem.le.refl m) (Ext.refl st φ) hs henv hsize Marks.nil) fun ex a' w' hp=>endF_ok hs.dom hx hp))
     ·cases hx
    ·rename_i hcut;rw[hcut] at hslots;split at hx
     ·rename_i x s cl hex;exact(callsIn_wide (n:=0)).1 (callsIn_of_wp_marks (F:=FF none) hfn hc trivial (wpIn_mono (execD_ok (n:=fn.ntmps) (E:=⟨w,m,feetOf μ⟩) hmix he hex hslots hs.dom (Mem.le.refl m) (Ext.refl st φ) hs henv hsize rfl) fun ex a' w' hp=>endD_ok hmix hP he hs.dom hx hp))
     ·cases hx
   ·cases hx
  ·cases hx
theorem putPs_ok:∀{ps:List Nat}{vs:List PV}{us:List Value}{ρ:AEnv}{tmps:Array Value},(∀t x,aget ρ t=some x→∃v,tmps[t]?=some v∧R m φ x v)→Rl m φ vs us→ps.all (fun t=>Nat.blt t tmps.size)=true →
  (∀t x,aget (putPs ps vs ρ) t=some x→∃v,((ps.zip us).foldl (fun tmps (t,a)=>tmps.setIfInBounds t a) tmps)[t]?=some v∧R m φ x v)∧((ps.zip us).foldl (fun tmps (t,a)=>tmps.setIfInBounds t a) tmps).size=tmps.size
 |[],vs,us,ρ,tmps,h,hr,hb=>by simpa[putPs] using h
 |t::ps,[],us,ρ,tmps,h,hr,hb=>by
  have:us=[]:=List.eq_nil_of_length_eq_zero hr.1.symm
  simp_all[putPs]
 |t::ps,v::vs,us,ρ,tmps,h,hr,hb=>by
  obtain⟨u,us',rfl,h1,h2⟩:=hr.uncons;simp only[List.all_cons,Bool.and_eq_true] at hb;have hstep:∀t' x,aget (aput (some t) v ρ) t'=some x→∃v',(tmps.setIfInBounds t u)[t']?=some v'∧R m φ x v':=fun t' x ht=>by
   have hlt:t<tmps.size:=by simp_all
   rcases aget_put ht with⟨rfl,rfl⟩|⟨h3,h4⟩
   ·grind
   grind
  have:=putPs_ok (ps:=ps) (vs:=vs) (us:=us') (ρ:=aput (some t) v ρ) (tmps:=tmps.setIfInBounds t u) hstep h2 (by simpa using hb.2)
  simpa[putPs] using this
theorem Sit.turnLp{r r':Loop}{s s':LpS}(hs:Sit E m φ μ st w)(hi:st[i]?=some (.lp ρ' ps as bd s))(hφ:φ i=some (.blk l))(hl:w.heap[l]?=some (.loop r))
  (hr:r'.params=r.params∧r'.assign=r.assign∧r'.body=r.body∧r'.tmps=r.tmps) (hs':s'.is r'):∃μ',Sit E m φ μ' (st.set i (.lp ρ' ps as bd s')) (w.putObj l (.loop r'))∧s.is r:=by
 obtain⟨μ1,rs,μ2,e1,e2,e3⟩:=hs.sto.get hi;rw[Nat.zero_add] at e2 e3;obtain⟨l',rc,h1,rfl,h2,h3,h4,h5,h6,h7,h8,h9⟩:=e2;rw[hφ] at h1;cases h1;have hrc:w.heap[l]?=some (.loop rc):=hs.good.holds (.blk l (.loop rc)) (by rw[e1];simp)
 rw[hl] at hrc;cases hrc;have hg:Hb.Good E w m (.blk l (.loop r)::(μ1++μ2)):=hs.good.perm (by rw[e1];simp)
 have hlt:l<w.heap.size:=mem_lt hl;have ht:Hb.Good E (w.putObj l (.loop r')) m (.blk l (.loop r')::(μ1++μ2)):=hg.turn rfl rfl rfl (by simp) (fun b hb hf=>World.putObj_heap_other (fun e=>hf (by simp[Res.foot,e]))) (fun b o v hf hm=>by
   simp only[Res.foot,Option.some.injEq] at hf;subst hf;obtain⟨c,T,fr,h1,_⟩:=hg.sub _ o v hm
   grind) (World.putObj_heap_same hlt) (fun b hb=>.inl ⟨hb,Nat.le_refl _⟩)
 obtain⟨k1,k2,k3,k4⟩:=hr;refine⟨μ1++([.blk l (.loop r')]++μ2),⟨ht.perm (by simpa using(List.perm_middle (a:=Res.blk l (Obj.loop r')) (l₁:=μ1) (l₂:=μ2)).symm),e3 (o':=.lp ρ' ps as bd s') (rs':=[.blk l (.loop r')]) (Mem.le.refl m) (Le.refl φ) (fun _ _=>rfl) ?_,fun id hid=>hs.dom id (by simpa using hid)⟩,h2⟩
 exact⟨l,r',hφ,rfl,hs',by rw[k1];exact h3,by rw[k2];exact h4,by rw[k3];exact h5,by rw[k4];exact h6,by rw[k4];exact h7,by rw[k4];exact h8,fun t x ht=>by grind⟩
theorem yieldEnd_ok(hk:st0.length=k0)(hd0:∀id,k0≤id→φ0 id=none)(hxt:Ext st0 st1 φ0 φ1)(hs:Sit E m φ1 μ st1 w):∃φ2 μ2,Ext st0 (yieldEnd k0 st1) φ0 φ2∧Sit E m φ2 μ2 (yieldEnd k0 st1) w:=by
 unfold yieldEnd;split
 ·rename_i hb;have hlen:(st1.take k0).length=k0:=by have:=hxt.len;simp;omega
  obtain⟨μ2,p1,p2⟩:=hs.sto.fewer (st':=st1.take k0) (by simp;omega) (fun i o hi=>.inl (by
   grind))
  have hf:∀i,i<k0→Nat.blt i k0=true:=fun i hi=>by simp_all
  refine⟨only (fun i=>Nat.blt i k0) φ1,μ2,⟨fun id=>?_,by omega,fun id hid=>?_⟩,⟨hs.good.drop p1,p2.only (fun i _ hi=>hf i (by omega)) hb,fun id hid=>?_⟩⟩
  ·by_cases hlt:id<k0
   ·have:only (fun i=>Nat.blt i k0) φ1 id=φ1 id:=by grind [only]
    rw[this];exact hxt.le id
   grind
  ·have hlt:=(List.getElem?_eq_some_iff.1 hid).1;obtain⟨d1,d2⟩:=hxt.dead id hid
   grind [only]
  grind [Nat.blt_eq,only]
 ·obtain⟨φ2,μ2,g1,g2,g3,_⟩:=gc_ok (ρ:=[]) (Nat.le_of_eq hk) (by have:=hxt.len;omega) hd0 hxt hs
  obtain⟨φ3,μ3,k1,k2,_⟩:=squeeze_ok (Nat.le_of_eq hk) g1 hd0 g2 g3 (rfl:squeeze k0 [] (gc k0 [] st1)=_);exact⟨φ3,μ3,k1,k2⟩
theorem Sit.lp{s:LpS}(hs:Sit E m φ μ st w)(hi:st[i]?=some (.lp ρ' ps as bd s))(hφ:φ i=some (.blk l)):∃r,w.heap[l]?=some (.loop r)∧s.is r:=by
 obtain⟨μ1,rs,μ2,e1,e2,e3⟩:=hs.sto.get hi;rw[Nat.zero_add] at e2;obtain⟨l',rc,h1,rfl,h2,_⟩:=e2;rw[hφ] at h1;cases h1;exact⟨rc,hs.good.holds (.blk l (.loop rc)) (by rw[e1];simp),h2⟩
theorem Ext.setLp{o:SO}(h:Ext st0 st1 φ0 φ1)(hi:∀o',st0[i]?=some o'→o'≠.dead):Ext st0 (st1.set i o) φ0 φ1:=
 ⟨h.le,by simpa using h.len,fun id hid=>by
  obtain⟨d1,d2⟩:=h.dead id hid
  grind⟩
theorem yieldF_ok(hmix:C.P.follows .mixedOrders=true)(he:EvOk C e):DoesOk (YieldD C.P) (yieldF C e):=by
 intro args st r st' hx w m φ μ vs hs hr;unfold yieldF at hx;split at hx;rotate_left
 ·cases hx
 rename_i id ws;split at hx;rotate_left
 ·cases hx
 rename_i ρ ps as bd hst;split at hx;rotate_left
 ·cases hx
 rename_i s1 hlen hex;rw[Bool.and_eq_true,Bool.and_eq_true] at hlen;obtain⟨hlen,hna,hnb⟩:=hlen;split at hx;rotate_left
 ·cases hx
 rename_i ρ1 ps1 as1 bd1 hst1;obtain⟨v0,us,rfl,hy,hus⟩:=hr.uncons;cases hy with
 | @yl _ _ l hφ=>
  obtain⟨μ1,rs,μ2,e1,e2,e3⟩:=hs.sto.get hst;rw[Nat.zero_add] at e2;obtain⟨l',rec,h1,rfl,h2,h3,h4,h5,h6,h7,h8,h9⟩:=e2;rw[hφ] at h1;cases h1;have hl:w.heap[l]?=some (.loop rec):=hs.good.holds (.blk l (.loop rec)) (by rw[e1];simp)
  obtain⟨hρ,hsz⟩:=putPs_ok h9 hus h8;have hzip:(rec.params.zip us.toArray).foldl (fun tmps (t,a)=>tmps.setIfInBounds t a) rec.tmps=(ps.zip us).foldl (fun tmps (t,a)=>tmps.setIfInBounds t a) rec.tmps:=by
   grind
  refine⟨l,us,rec.fn,_,rec.assign,rec.body,rfl,run_yield hl (by rw[h3];simp;have:=Nat.eq_of_beq_eq_true hlen;rw[←hus.1];exact this),fun k=>?_⟩
  rw[hzip,h4,h5];have hnd:∀o',st[id]?=some o'→o'≠.dead:=fun o' ho=>by grind
  cases hbx:exec C e bd ⟨s1.env,s1.st.set id (.lp ρ1 ps1 as1 bd1 .busy)⟩ with
  |none=>simp[hbx] at hx
  |some res=>
  obtain⟨x,s2⟩:=res;rw[hbx] at hx;simp only at hx;split at hx;rotate_left
  ·cases hx
  rename_i ρ2 ps2 as2 bd2 hst2;refine roundIn_of_wpIn (F:=Fence.wide) trivial ?_;refine wpIn_mono (exec_ok (ro:=some l) (n:=rec.tmps.size) (E:=⟨w,m,feetOf μ⟩) hmix he hex h6 (fun _=>hna) hs.dom (Mem.le.refl m) (Ext.refl st φ) hs hρ hsz Marks.nil) ?_
  rintro ex a1 w1 ⟨m1,φ1,μ1',q1,q2,q3,q4,q5,q6,q7⟩;obtain rfl:=q7;have hφ1:φ1 id=some (.blk l):=(q2.le id).1 l hφ;obtain⟨r1,hl1,hr1⟩:=q3.lp hst1 hφ1;obtain⟨μ3,hs3,_⟩:=q3.turnLp (r':={ r1 with state:=.busy }) (s':=.busy) hst1 hφ1 hl1 ⟨rfl,rfl,rfl,rfl⟩ rfl
  have q6':Marks [] ⟨w,m,feetOf μ⟩ a1.defers (w1.putObj l (.loop { r1 with state:=.busy })):=q6.of fun b hb=>World.putObj_heap_other (fun e'=>by
   grind)
  refine⟨_,run_beginRound hl1 hr1.1,?_⟩;refine wpIn_mono (exec_ok (ro:=some l) (n:=rec.tmps.size) (E:=⟨w,m,feetOf μ⟩) (m0:=m) (φ0:=φ) (st0:=st) hmix he hbx h7 (fun _=>hnb) hs.dom q1 (q2.setLp hnd) hs3 q4 q5 q6') ?_
  rintro ex a2 w3 ⟨m2,φ2,μ4,p1,p2,p3,p4,p5,p6,p7⟩;have hφ2:φ2 id=some (.blk l):=(p2.le id).1 l hφ;obtain⟨r2,hl2,hr2⟩:=p3.lp hst2 hφ2;have fin:∀(jump:Option Code) (ls:LpS) (b:Bool),b=jump.isNone→ls.is { r2 with state:=if jump.isNone then .ready else .done,pending:=jump }→(r,st')=(.ret [.sc (.bool b)],yieldEnd st.length (s2.st.set id (.lp ρ2 ps2 as2 bd2 ls))) →
    ∃v w',(Instr.endRound l jump).run C.P w3=.ok v w'∧∃m' φ' μ',Ext st st' φ φ'∧Sit ⟨w,m,feetOf μ⟩ m' φ' μ' st' w'∧EndR m' φ' r (.returned v):=fun jump ls b hb hls hrs=>by
   cases hrs;obtain⟨μ5,hs5,_⟩:=p3.turnLp (r':={ r2 with state:=if jump.isNone then .ready else .done,pending:=jump }) (s':=ls) hst2 hφ2 hl2 ⟨rfl,rfl,rfl,rfl⟩ hls
   obtain⟨φ5,μ6,k1,k2⟩:=yieldEnd_ok rfl hs.dom (p2.setLp (o:=.lp ρ2 ps2 as2 bd2 ls) hnd) hs5;exact⟨_,_,run_endRound jump hl2,m2,φ5,μ6,k1,k2,[.bool jump.isNone],rfl,by rw[hb];exact .cons (.sc rfl) .nil⟩
  cases x with
  |normal=>
   obtain rfl:=p7;exact fin none .ready true rfl ⟨rfl,rfl⟩ (Option.some.inj hx).symm
  |ret=>
   obtain rfl:=p7;exact fin (some .ret) (.done none) false rfl ⟨rfl,rfl⟩ (Option.some.inj hx).symm
  |exit i=>
   obtain rfl:=p7;exact fin (some (.exit i)) (.done (some i)) false rfl ⟨rfl,rfl⟩ (Option.some.inj hx).symm
  |pan v=>cases hx
theorem ev_ok(hmix:C.P.follows .mixedOrders=true)(hP:slotsP C.P=true)(hnat:NatOk C):∀n,EvOk C (ev C n)
 |0=>⟨fun f args st r st' h=>by simp[ev] at h,fun ks k0 c s x s' h=>by simp[ev] at h,fun args st r st' h=>by simp[ev] at h⟩
 |n+1=>⟨callF_ok hmix hP hnat (ev_ok hmix hP hnat n),loopF_ok hmix (ev_ok hmix hP hnat n),yieldF_ok hmix (ev_ok hmix hP hnat n)⟩
end
end Go.Am

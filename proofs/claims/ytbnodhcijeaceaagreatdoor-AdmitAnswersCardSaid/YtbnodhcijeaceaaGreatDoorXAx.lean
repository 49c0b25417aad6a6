/- Calls and loops of the plain machine, with whatever fuel: the model does the same. Plain lemmas, no statement of the seat. -/
import Derived.Test.YtbnodhcijeaceaaGreatDoorXAf
set_option linter.all false
namespace Go.Am
open Go Go.Hb
open Go.Gw (tk tf tz tsl tar tpl isAggD)
section
variable{P:Program}{E:Entry}{m:Mem}{φ:Ph}{μ:Own}{st:Sto}{ρ:AEnv}{a:Act}{w:World}{C:Cfg}{e:Ev}{n:Nat}
def jfX:∀{ks:List Nat}{ρ ρ':AEnv},canon ks ρ=some ρ'→∀{t:Nat}{x:PV},aget ρ' t=some x→aget ρ t=some x
 |[],ρ,ρ',h,t,x,hx=>by
  simp_all[canon,mapO,AD,aget]
 |k::ks,ρ,ρ',h,t,x,hx=>by
  unfold canon at h;obtain⟨y,r',rfl,h1,h2⟩:=j5c h;split at h1
  ·rename_i v hv;cases h1;simp only[aget] at hx;split at hx
   ·simp_all
   ·exact jfX (ks:=ks) h2 hx
  ·cases h1
theorem SRo.only{f:Nat→Bool}{id:Nat}{o:SO}{rs:Own}(h:SRo m φ id o rs)(hid:f id=true)(ho:soIn f o=true):SRo m (Am.only f φ) id o rs:=by
 have hφ:Am.only f φ id=φ id:=by simp[Am.only,hid]
 cases o with
 |dead=>exact h
 |box T cs=>obtain⟨b,vs,h1,h2,h3,h4⟩:=h;exact⟨b,vs,hφ.trans h1,h2,h3.only ho,h4⟩
 |frz cs=>obtain⟨h0,b,vs,h1,h2,h3,h4⟩:=h;exact⟨h0,b,vs,hφ.trans h1,h2,h3.only ho,h4⟩
 |lp ρ ps a b s=>
  obtain⟨l,r,h1,h2,h3,h4,h5,h6,h7,h8,h9,gA⟩:=h;refine⟨l,r,hφ.trans h1,h2,h3,h4,h5,h6,h7,h8,h9,fun t x ht=>?_⟩
  obtain⟨v,q1,q2⟩:=gA t x ht;obtain⟨p,hp,rfl⟩:=jaC ht;exact⟨v,q1,q2.only f 8 (AF.1 ho p hp)⟩
 |mp ks vs=>obtain⟨b,en,clock,h1,h2,h3,h4⟩:=h;exact⟨b,en,clock,hφ.trans h1,h2,h3,h4.only ho⟩
 |ch c q=>obtain⟨b,us,s,r,h1,h2,h3⟩:=h;exact⟨b,us,s,r,hφ.trans h1,h2,h3.only ho⟩
 |row p e sz xs=>
  obtain⟨a,cap,vss,h1,h2,h3,h4,h5⟩:=h;refine⟨a,cap,vss,hφ.trans h1,h2,h3,h4,fun i x vs hx hv=>?_⟩
  obtain⟨q1,q2,q3,q4⟩:=h5 i x vs hx hv;refine⟨q1,q2,q3,q4.1,fun j c v hc qA=>?_⟩
  have hA:=AF.1 ho x (AE hx);have:j0e f 8 c=true:=by
   unfold PV.cells at hc;split at hc
   ·simp only[j0e] at hA;exact jeC (AF.1 hA c (AE hc))
   grind
  exact R.only f 8 this (q4.2 j c v hc qA)
theorem SR.only{f:Nat→Bool}:∀{k:Nat}{st:Sto}{μ:Own},SR m φ k st μ→(∀i,k≤i→i<k+st.length→f i=true)→st.all (soIn f)=true→SR m (Am.only f φ) k st μ
 |_,[],_,h,_,_=>h
 |k,o::r,μ,h,hf,ho=>by
  obtain⟨rs,μ',h1,h2,h3⟩:=h;simp only[BH,AB] at ho;exact⟨rs,μ',h1,h2.only (hf k (AU k) (by simp)) ho.1,h3.only (fun i h4 h5=>hf i (by omega) (by grind)) ho.2⟩
def SR.fewer:∀{k:Nat}{st st':Sto}{μ:Own},SR m φ k st μ→st'.length≤st.length→(∀(i:Nat) (o:SO),st'[i]?=some o→st[i]?=some o∨o=.dead)→∃μ',μ'.Sublist μ∧SR m φ k st' μ'
 |k,st,[],μ,_,_,_=>⟨[],List.nil_sublist _,rfl⟩
 |k,[],o'::r',μ,_,hl,_=>by simp at hl
 |k,o::r,o'::r',μ,h,hl,hd=>by
  obtain⟨rs,μ',rfl,h2,h3⟩:=h;obtain⟨ν,h4,h5⟩:=SR.fewer h3 (show r'.length≤r.length by simpa using hl) (fun i q hq=>by simpa using hd (i+1) q (by simpa using hq))
  rcases hd 0 o' rfl with h6|h6
  ·simp only[DJ,AD] at h6;subst h6;exact⟨rs++ν,h4.append_left rs,⟨rs,ν,rfl,h2,h5⟩⟩
  ·subst h6;exact⟨ν,h4.trans (FA _ _),⟨[],ν,rfl,rfl,h5⟩⟩
def jhg{k0:Nat}{acc:List Nat}:∀{k:Nat}{st:Sto}{i:Nat}{o:SO},(sweep k0 acc k st)[i]?=some o→st[i]?=some o∨(o=.dead∧k0≤k+i)
 |_,[],i,o,h=>by simp[sweep] at h
 |k,q::r,i,o,h=>by
  cases i with
  |zero=>
   grind [sweep,List.getElem?_cons_zero,Option.some.injEq,Bool.or_eq_false_iff,Nat.blt_eq]
  |succ i=>
   simp only[sweep,GH] at h;rcases jhg h with h1|h1
   ·grind
   grind
def j7b{k0:Nat}{acc:List Nat}:∀{k:Nat}{st:Sto},(sweep k0 acc k st).length=st.length
 |_,[]=>rfl
 |k,q::r=>by simp[sweep,j7b]
def jfq:∀{k:Nat}{st:Sto}{i:Nat}{o:SO},(trim k st)[i]?=some o→st[i]?=some o
 |_,[],i,o,h=>by simp[trim] at h
 |0,q::r,i,o,h=>by
  simp only[trim] at h;split at h
  ·simp at h
  ·cases i with
   |zero=>simpa using h
   |succ i=>simpa using jfq (k:=0) (show(trim 0 r)[i]?=some o by simpa using h)
 |k+1,q::r,i,o,h=>by
  simp only[trim] at h;cases i with
  |zero=>simpa using h
  |succ i=>simpa using jfq (k:=k) (show(trim k r)[i]?=some o by simpa using h)
def j6d:∀{k:Nat}{st:Sto},(trim k st).length≤st.length∧(k≤st.length→k≤(trim k st).length)
 |_,[]=>by simp[trim]
 |0,q::r=>by
  simp only[trim];split
  ·simp
  ·have:=(j6d (k:=0) (st:=r)).1
   grind
 |k+1,q::r=>by
  have:=j6d (k:=k) (st:=r)
  simp_all[trim,AC]
variable{r:AEnd}{s:AS}{x:AX}{a':Act}{as bd:Code}{ex:Exit}{fn:Func}{f:FuncId}{ρ':List (Nat×PV)}{ps:List Nat}{rs rs':List PV}{m0:Mem}{i k0 l:Nat}{φ0 φ1:Ph}{st' st0 st1:Sto}{w':World}
def jt6{ρ:AEnv}(hk:st0.length≤k0)(hB:k0≤st1.length)(gB:∀id,k0≤id→φ0 id=none)(gA:Ext st0 st1 φ0 φ1)(hs:Sit E m φ1 μ st1 w):
  ∃φ2 μ2,k0≤(gc k0 ρ st1).length∧Ext st0 (gc k0 ρ st1) φ0 φ2∧Sit E m φ2 μ2 (gc k0 ρ st1) w∧∀p∈ρ,∀v,R m φ1 p.2 v→R m φ2 p.2 v:=by
 have same:∃φ2 μ2,k0≤st1.length∧Ext st0 st1 φ0 φ2∧Sit E m φ2 μ2 st1 w∧∀p∈ρ,∀v,R m φ1 p.2 v→R m φ2 p.2 v:=⟨φ1,μ,hB,gA,hs,fun _ _ _ h=>h⟩
 unfold gc;split
 ·exact same
 ·simp only;generalize qA:trim k0 (sweep k0 _ 0 st1)=st2;split
  ·rename_i hb;rw[AB] at hb;have wA:∀(i:Nat) (o:SO),st2[i]?=some o→st1[i]?=some o∨(o=.dead∧k0≤i):=fun i o hi=>by
    rw[←qA] at hi;have:=jhg (jfq hi)
    grind
   have hlen:st2.length≤st1.length:=by
    rw[←qA];exact BL j6d.1 (EE j7b)
   have hA:k0≤st2.length:=by
    rw[←qA];exact j6d.2 (by rw[j7b];exact hB)
   obtain⟨μ2,p1,p2⟩:=hs.sto.fewer hlen (fun i o hi=>(wA i o hi).imp id (fun e=>e.1))
   have hf:∀i,i<st2.length→Nat.blt i st2.length=true:=fun i hi=>by simp_all
   refine⟨only (fun i=>Nat.blt i st2.length) φ1,μ2,hA,⟨fun id=>?_,BL hk hA,fun id hid=>?_⟩,⟨hs.good.drop p1,p2.only (fun i _ hi=>hf i (by omega)) hb.2,fun id hid=>?_⟩,fun p hp v hv=>?_⟩
   ·by_cases qB:id<k0
    ·have:only (fun i=>Nat.blt i st2.length) φ1 id=φ1 id:=by grind [only]
     rw[this];exact gA.le id
    grind
   ·have qB:=(AK.1 hid).1;obtain⟨d1,d2⟩:=gA.dead id hid
    grind [only]
   ·grind [Nat.blt_eq,only]
   ·exact R.only _ 8 (AF.1 hb.1 p hp) hv
  ·exact same
def Sit.take(hs:Sit E m φ μ st w){b:Nat}{x:Option (List Deferred)}{o:Obj}(hb:w.heap[b]?=some (.deferred x))(hE:E.w.heap.size≤b):Sit E m φ μ st (w.putObj b o):=by
 have hA:∀{c},c≠b→(w.putObj b o).heap[c]?=w.heap[c]?:=fun h=>World.putObj_heap_other h
 refine⟨⟨hs.good.os,hs.good.tape,hs.good.output,by simpa using hs.good.size,fun c hc hF=>(hA (by omega)).trans (hs.good.keep c hc hF),fun c k v hv=>?_,hs.good.mem,hs.good.fresh,fun r hr=>Res.holds_of (hs.good.holds r hr) (fun c hc=>hA (fun e=>hs.notMark hb r hr (by rw[hc,e]))),hs.good.feet,hs.good.apart,fun c cs hc=>⟨?_,(hs.good.glob c cs hc).2⟩⟩,hs.sto,hs.dom⟩
 rotate_left
 ·obtain⟨cs',T,fr,hp,h1⟩:=(hs.good.glob c cs hc).1
  grind
 obtain⟨cc,T,fr,h1,h2⟩:=hs.good.sub c k v hv
 grind
def jdw{fn:Func}{tmps:Array Value}{R:Ending→World→Prop}{u:FrameMode}{kk:Nat}{B:List Deferred}(hu:u≠.run):∀{D:List Deferred}{w:World},MarksL E D w→Sit E m φ μ st w→(∀w',Sit E m φ μ st w'→LeavesInM (FF none) kk P fn tmps R B u w')→LeavesInM (FF none) kk P fn tmps R (D++B) u w
 |[],w,_,hs,h=>h w hs
 |d::D,w,hM,hs,h=>by
  obtain⟨b,rfl,h2,h3⟩:=hM.at_ d BG;refine⟨hu,.inl ⟨b,_,rfl,run_takeDeferred h2,?_⟩⟩;refine jdw hu ⟨fun d' hA=>?_,(CA.1 hM.apart).2⟩ (hs.take h2 h3) h
  obtain⟨b',q1,q2,q3⟩:=hM.at_ d' (BE _ hA);refine⟨b',q1,(World.putObj_heap_other (fun e=>?_)).trans q2,q3⟩
  subst e;exact(CA.1 hM.apart).1 d' hA q1.symm
def j5b{tmps:Array Value}{R:Ending→World→Prop}{u:FrameMode}{kk:Nat}{B:List Deferred}(hu:u≠.run){D:List Deferred}{w:World}(hM:Marks B E D w)(hs:Sit E m φ μ st w)(h:∀w',Sit E m φ μ st w'→LeavesInM (FF none) kk P fn tmps R B u w'):LeavesInM (FF none) kk P fn tmps R D u w:=by
 obtain⟨D1,rfl,hM⟩:=hM;exact jdw hu hM hs h
def jjk:∀{vs:List PV}{i t:Nat}{x:PV},aget (argE i vs) t=some x→i≤t∧vs[t-i]?=some x
 |[],i,t,x,h=>by simp[argE,aget] at h
 |u::r,i,t,x,h=>by
  simp only[argE,aget] at h;split at h
  ·simp_all
  ·obtain⟨h3,h4⟩:=jjk h
   grind
def jtw{r:ResultVar}{x:PV}(hs:Sit E m φ μ s.st w)(h:EnvR m φ s.env a)(hx:resP C.P s r=some x):∃v,(Gw.resM a.tmps r).run C.P w=.ok v w∧R m φ x v:=by
 unfold resP at hx;split at hx
 ·rename_i t;obtain⟨v,h1,h2⟩:=h t x hx
  simp_all[Gw.resM,BM]
 ·rename_i t T;split at hx
  ·rename_i p ag k hp ht;obtain⟨u,h1,h2⟩:=h t p hp;obtain⟨b,off,v,rfl,h3,h4⟩:=jgG hs ht hx h2
   simp_all[Gw.resM,BM,asAddr]
  ·cases hx
def jkk{s:AS}(hs:Sit E m φ μ s.st w)(h:EnvR m φ s.env a):∀{rs:List ResultVar}{xs:List PV},mapO (resP C.P s) rs=some xs→∃vs,(rs.mapM (m:=Sem) (Gw.resM a.tmps)).run C.P w=.ok vs w∧Rl m φ xs vs
 |[],xs,hx=>by
  simp only[mapO,AD] at hx;subst hx;exact⟨[],by simp,.nil⟩
 |r::rs,xs,hx=>by
  obtain⟨x,xs',rfl,h1,h2⟩:=j5c hx;obtain⟨v,h3,h4⟩:=jtw hs h h1;obtain⟨vs,h5,h6⟩:=jkk hs h h2;exact⟨v::vs,by simp_all,.cons h4 h6⟩
def jhm:∀(n k j:Nat),j<n→(j8h k n)[j]?=some (k+j)
 |0,k,j,h=>by omega
 |n+1,k,j,h=>by
  cases j with
  |zero=>simp[j8h]
  |succ j=>
   have:=jhm n (k+1) j (by omega)
   grind [j8h,List.getElem?_cons_succ]
def j7d:∀(n k:Nat),(j8h k n).length=n
 |0,k=>rfl
 |n+1,k=>by simp[j8h,j7d n]
def j9e:∀(n k j:Nat),j∈j8h k n↔k≤j∧j<k+n
 |0,k,j=>by simp[j8h]
 |n+1,k,j=>by
  simp only[j8h,AN,j9e n];omega
def jcl:∀(n k:Nat),(j8h k n).Nodup
 |0,k=>FP
 |n+1,k=>by
  simp only[j8h,DX,j9e];exact⟨by omega,jcl n _⟩
def jbJ:∀{st:Sto}{k j:Nat},j∈j3N k st→k≤j∧j<k+st.length
 |[],k,j,h=>by simp[j3N] at h
 |o::r,k,j,h=>by
  have rest:j∈j3N (k+1) r→k≤j∧j<k+(o::r).length:=fun h=>by
   have:=jbJ h
   grind
  unfold j3N at h
  grind
def j6K:∀{st:Sto}{k:Nat},(j3N k st).Nodup
 |[],k=>by simp[j3N]
 |o::r,k=>by
  unfold j3N;split
  ·exact j6K
  ·exact DX.2 ⟨fun h=>by have:=jbJ h;omega,j6K⟩
def jdx:∀{st:Sto}{k i:Nat}{o:SO},st[i]?=some o→k+i∉j3N k st→o=.dead
 |[],k,i,o,h,_=>by simp at h
 |q::r,k,i,o,h,hn=>by
  unfold j3N at hn;cases i with
  |zero=>
   grind
  |succ i=>
   have hA:k+1+i∉j3N (k+1) r:=by
    grind
   exact jdx (by simpa using h) hA
def ja2{st:Sto}{φ:Ph}(hk:st0.length≤k0)(kF:k0≤st.length)(wF:∀id,k0≤id→φ0 id=none)(hB:Ext st0 st φ0 φ)(hs:Sit E m φ μ st w)(hq:squeeze k0 rs st=(rs',st')):
  ∃φ2 μ2,Ext st0 st' φ0 φ2∧Sit E m φ2 μ2 st' w∧∀vs,Rl m φ rs vs→Rl m φ2 rs' vs:=by
 have same:∃φ2 μ2,Ext st0 st φ0 φ2∧Sit E m φ2 μ2 st w∧∀vs,Rl m φ rs vs→Rl m φ2 rs vs:=⟨φ,μ,hB,hs,fun _ h=>h⟩
 unfold squeeze at hq;obtain⟨π,hπ⟩:∃π,π=j8h 0 k0++j3N k0 (st.drop k0):=⟨_,rfl⟩;rw[←hπ] at hq;have hn:π.Nodup:=by
  rw[hπ,List.nodup_append];refine⟨jcl _ _,j6K,fun a ha b hb=>?_⟩
  rw[j9e] at ha;have:=jbJ hb;omega
 have wC:∀j,j<k0→π[j]?=some j:=fun j hj=>by
  rw[hπ,AW (by rw[j7d];exact hj),jhm _ _ _ hj,AP]
 have hlen:k0≤π.length:=by
  grind
 have wB:∀(i:Nat) (o:SO),st[i]?=some o→i∉π→o=.dead:=fun i o ho hi=>by
  rw[hπ,BJ,not_or,j9e] at hi;have gF:k0≤i:=by omega
  refine jdx (st:=st.drop k0) (k:=k0) (i:=i-k0) ?_ ?_
  ·grind
  grind
 unfold j7a at hq;split at hq
 ·cases hq;exact same
 ·split at hq
  ·rename_i st2 gD hf;cases hq;have wA:=jaK hf;obtain⟨φ2,hφ2⟩:∃φ2:Ph,φ2=fun j=>match π[j]? with
    |some i=>φ i
    |none=>none:=⟨_,rfl⟩
   have hφ2':∀{j i:Nat},π[j]?=some i→φ2 j=φ i:=fun{j i} h=>by grind
   have hE:∀{i:Nat},(π.elem i)=true→i∈π:=fun h=>by simpa using h
   have hD:∀i,(fun i=>π.elem i) i=true→φ2 ((fun i=>place i 0 π) i)=φ i:=fun i hi=>by
    obtain⟨j,h1,h2⟩:=jaQ (k:=0) (hE hi)
    grind
   have wE:∀i∈π,i<st.length:=fun i hi=>by
    obtain⟨j,h2⟩:=BX hi
    grind
   obtain⟨L,hG,qE,qD⟩:=hs.sto.list;have qA:∀i∈π,i<L.length:=fun i hi=>by grind
   obtain⟨Ls,gC⟩:∃Ls:List Own,Ls=π.map fun i=>L.getD i []:=⟨_,rfl⟩
   have qC:Ls.length=π.length:=by simp[gC]
   have qB:SR m φ2 0 st' Ls.flatten:=SR.ofList (by rw[qC,wA.1]) fun j o rs h1 h2=>by
    have hj:j<π.length:=by grind
    have gB:π[j]?=some π[j]:=AA hj;obtain⟨o0,q1,q2,q3⟩:=wA.2 j _ gB;rw[h1] at q3;cases q3;rw[gC,BA,gB] at h2;simp only[AY,AD] at h2;have hF:=qA _ (DH hj);have kE:L[π[j]]?=some rs:=by grind
    have:=qD _ o0 rs q1 kE;rw[AP] at this⊢;exact this.ren hD q2 (hφ2' gB)
   have hC:(j2k π (π.map fun _=>([]:Own)) L).flatten=[]:=by
    rw[List.flatten_eq_nil_iff]
    intro x hx;obtain⟨i,hi⟩:=BX hx;have wD:i<L.length:=by grind [j0P]
    by_cases hm:i∈π
    ·obtain⟨j,hj⟩:=BX hm;have qF:j<π.length:=(AK.1 hj).1;rw[j6V hn wD hj (show(π.map fun _=>([]:Own))[j]?=some [] by grind)] at hi
     cases hi;rfl
    ·rw[j3B hm] at hi;have ho:st[i]?=some st[i]:=AA (by omega)
     have gA:=wB i _ ho hm;rw[gA] at ho;have:=qD i _ _ ho hi;exact this
   have hA:μ.Perm Ls.flatten:=by
    have:=j5Z (π:=π) (rss:=π.map fun _=>([]:Own)) (L:=L) hn qA (by simp)
    have hz:(π.map fun _=>([]:Own)).flatten=[]:=by simp
    rw[hz,BV,qE,hC,BV,←gC] at this;exact this.symm
   refine⟨φ2,Ls.flatten,⟨fun id=>?_,by rw[wA.1];omega,fun id hid=>?_⟩,⟨hs.good.perm hA,qB,fun id hid=>?_⟩,fun vs hr=>hr.ren hD gD⟩
   ·rcases DP id k0 with h|h
    ·rw[hφ2' (wC id h)];exact hB.le id
    grind
   ·have hl:=(AK.1 hid).1;obtain⟨d1,d2⟩:=hB.dead id hid;obtain⟨o,q1,_,q3⟩:=wA.2 id id (wC id (by omega))
    rw[d1] at q1;cases q1;exact⟨q3,by grind⟩
   grind
  ·cases hq;exact same
def jiQ{st:Sto}(hk:k0≤st.length)(hq:squeeze k0 rs st=(rs',st')):k0≤st'.length:=by
 unfold squeeze j7a at hq;split at hq
 ·cases hq;exact hk
 ·split at hq
  ·rename_i st2 qA hf;cases hq;have hA:=jaK hf
   simp_all[AL,j7d]
  ·cases hq;exact hk
def jh5:∀{ρ:AEnv}{vs:List PV}{t:Nat}{y:PV},aget (jh4 ρ vs) t=some y→∃(i:Nat) (x:PV),ρ[i]?=some (t,x)∧vs[i]?=some y
 |[],vs,t,y,h=>by simp[jh4,aget] at h
 |(k,x)::r,[],t,y,h=>by simp[jh4,aget] at h
 |(k,x)::r,v::vs,t,y,h=>by
  simp only[jh4,aget] at h;split at h
  ·rename_i hb;have hA:=AH hb;subst hA;cases h;exact⟨0,x,rfl,rfl⟩
  ·obtain⟨i,x',h1,h2⟩:=jh5 h;exact⟨i+1,x',by simpa using h1,by simpa using h2⟩
def jfY:∀{ks:List Nat}{ρ ρ':AEnv},canon ks ρ=some ρ'→∀p∈ρ',aget ρ p.1=some p.2
 |[],ρ,ρ',h,p,hp=>by
  simp_all[canon,mapO,AD]
 |k::ks,ρ,ρ',h,p,hp=>by
  unfold canon mapO at h;split at h
  ·rename_i y hy;split at h
   ·rename_i l hl;cases h;split at hy
    ·rename_i v hv;cases hy;rcases AN.1 hp with rfl|hp
     ·exact hv
     ·exact jfY (ks:=ks) hl p hp
    ·cases hy
   ·cases h
  ·cases h
def jqN(gA:C.P.follows .mixedOrders=true)(he:EvOk C e):jrR C.P (jcQ C e):=by
 intro ks k0 c s x s' hx ro B E n m0 φ0 st0 m φ μ a w gB hR hk qC hB hm qA hs h hn hD b k cs wB;unfold jcQ at hx;cases h1:exec C e c s with
 |none=>simp[h1] at hx
 |some r=>
  obtain⟨x1,s1⟩:=r;rw[h1] at hx;obtain⟨ex,a₁,w₁,hq,hA⟩:=j9C (ro:=ro) (kk:=0) (n:=n) (E:=E) gA he h1 gB hR (Sit.dom hs) (Mem.le.refl m) (Ext.refl s.st φ) hs h hn hD b (.inLoop c::k) cs wB trivial (room_wide _);obtain⟨m',φ',μ',q1,q2,q3,q4,q5,q6,q7⟩:=hq;cases x1 with
  |normal=>
   obtain rfl:=q7;simp only at hx;split at hx
   ·rename_i ρ hc;have wA:EnvR m' φ' ρ a₁:=fun t y ht=>q4 t y (jfX hc ht)
    obtain⟨φ2,μ2,g1,g2,g3,g4'⟩:=jt6 (ρ:=ρ) hk (BL qC q2.len) hB (qA.trans q2) q3;have g4:EnvR m' φ2 ρ a₁:=fun t y ht=>by
     obtain⟨v,p1,p2⟩:=wA t y ht;obtain⟨p,p3,rfl⟩:=jaC ht
     grind
    obtain⟨φ3,μ3,k1,k2,k3,k4⟩:∃φ3 μ3,k0≤(again C k0 ρ s1.st).2.length∧Ext st0 (again C k0 ρ s1.st).2 φ0 φ3∧Sit E m' φ3 μ3 (again C k0 ρ s1.st).2 w₁∧EnvR m' φ3 (again C k0 ρ s1.st).1 a₁:=by
     cases hsz:C.sqz with
     |false=>
      grind [again]
     |true=>
      obtain⟨Z,hZ⟩:∃Z,Z=squeeze k0 (ρ.map (·.2)) (gc k0 ρ s1.st):=⟨_,rfl⟩
      have e:again C k0 ρ s1.st=(jh4 ρ Z.1,Z.2):=by simp_all[again]
      rw[e];have qB:∀p∈ρ,∃v,a₁.tmps[p.1]?=some v∧R m' φ2 p.2 v:=fun p hp=>by
       obtain⟨v,p1,p2⟩:=q4 _ _ (jfY hc p hp)
       grind
      have hC:Rl m' φ2 (ρ.map (·.2)) (ρ.map fun p=>(a₁.tmps[p.1]?).getD default):=by
       refine⟨by simp,fun i c v wD gD=>?_⟩
       grind
      obtain⟨φ3,μ3,k1,k2,k3⟩:=ja2 (rs:=ρ.map (·.2)) (rs':=Z.1) (st':=Z.2) hk g1 hB g2 g3 hZ.symm
      refine⟨φ3,μ3,jiQ g1 hZ.symm,k1,k2,fun t y ht=>?_⟩
      obtain⟨i,x,wC,gC⟩:=jh5 ht;have hr:=(k3 _ hC).2 i y ((a₁.tmps[t]?).getD default) gC (by grind)
      obtain⟨v,w1,w2⟩:=qB _ (AE wC)
      grind
    obtain⟨e₂,a₂,w₂,hq₂,hA₂⟩:=he.loop ks k0 c _ x s' hx ro B E n m0 φ0 st0 m' φ3 μ3 a₁ w₁ gB hR hk k1 hB (hm.trans q1) k2 k3 k4 q5 q6 b k cs wB;exact⟨e₂,a₂,w₂,hq₂,.of_steps (StepsIn.trans hA (.one (fenced_wide _ _) stepR_inLoop)) hA₂⟩
   ·cases hx
  |exit i=>
   obtain rfl:=q7;cases hx;exact⟨_,a₁,w₁,⟨m',φ',μ',hm.trans q1,qA.trans q2,q3,q4,q5,q6,rfl⟩,.pass (x:=.inLoop c) rfl (fun _ _=>.inl (by simp)) hA⟩
  |ret=>
   obtain rfl:=q7;cases hx;exact⟨_,a₁,w₁,⟨m',φ',μ',hm.trans q1,qA.trans q2,q3,q4,q5,q6,rfl⟩,.pass (x:=.inLoop c) rfl (fun _ _=>.inl (by simp)) hA⟩
  |pan y=>
   obtain⟨v,⟨ch,rfl,qD⟩,q8⟩:=q7;cases hx;exact⟨_,a₁,w₁,⟨m',φ',μ',hm.trans q1,qA.trans q2,q3,q4,q5,q6,v,⟨ch,rfl,qD⟩,q8⟩,.pass (x:=.inLoop c) rfl (fun _ _=>.inl (by simp)) hA⟩
def jsI{st2:Sto}{vs:List Value}(hk:st0.length=k0)(gA:∀id,k0≤id→φ0 id=none)(qA:Ext st0 st1 φ0 φ1)(hs:Sit E m φ1 μ st1 w)(hr:Rl m φ1 rs vs)(hx:aret C f k0 rs st1=some (rs',st2)):
  ∃m' φ2 μ2,Mem.le m m'∧Ext st0 st2 φ0 φ2∧Sit E m' φ2 μ2 st2 w∧Rl m' φ2 rs' vs:=by
 unfold aret at hx;split at hx
 ·rename_i rs1 stp hp;obtain⟨m',μ',e1,e2,e3,e4⟩:∃m' μ',Mem.le m m'∧Ext st1 stp φ1 φ1∧Sit E m' φ1 μ' stp w∧Rl m' φ1 rs1 vs:=by
   split at hp
   ·cases hp;exact⟨m,μ,Mem.le.refl m,Ext.refl _ _,hs,hr⟩
   ·exact jiB hp hs hr
  split at hx
  ·rename_i hb;rw[AB] at hb;cases hx;have hA:=qA.trans e2;have hlen:(stp.take k0).length=k0:=by have:=hA.len;simp;omega
   obtain⟨μ2,p1,p2⟩:=e3.sto.fewer (st':=stp.take k0) (by simp;omega) (fun i o hi=>.inl (by
    grind))
   have hf:∀i,i<k0→Nat.blt i k0=true:=fun i hi=>by simp_all
   refine⟨m',only (fun i=>Nat.blt i k0) φ1,μ2,e1,⟨fun id=>?_,by omega,fun id hid=>?_⟩,⟨e3.good.drop p1,p2.only (fun i _ hi=>hf i (by omega)) hb.2,fun id hid=>?_⟩,(e4.pure hb.1).any⟩
   ·by_cases wA:id<k0
    ·have:only (fun i=>Nat.blt i k0) φ1 id=φ1 id:=by grind [only]
     rw[this];exact hA.le id
    grind
   ·have wA:=(AK.1 hid).1;obtain⟨d1,d2⟩:=hA.dead id hid
    grind [only]
   grind [Nat.blt_eq,only]
  ·simp only[AD] at hx;have hA:=qA.trans e2;obtain⟨φ2,μ2,g1,g2,g3,g4⟩:=jt6 (ρ:=rs1.map fun r=>(0,r)) (EE hk) (by have:=hA.len;omega) gA hA e3
   obtain⟨φ3,μ3,k1,k2,k3⟩:=ja2 (EE hk) g1 gA g2 g3 hx;refine⟨m',φ3,μ3,e1,k1,k2,k3 vs ⟨e4.1,fun i c v hc hv=>g4 (0,c) ?_ v (e4.2 i c v hc hv)⟩⟩
   grind
 ·cases hx
def jp3{v:PV}{u:Value}(hk:st0.length=k0)(gA:∀id,k0≤id→φ0 id=none)(hA:Ext st0 st1 φ0 φ1)(hs:Sit E m φ1 μ st1 w)(hr:R m φ1 v u):
  ∃φ2 μ2,Ext st0 (panS k0 v st1) φ0 φ2∧Sit E m φ2 μ2 (panS k0 v st1) w∧R m φ2 v u:=by
 unfold panS;split
 ·rename_i hb;rw[AB] at hb;have hlen:(st1.take k0).length=k0:=by have:=hA.len;simp;omega
  obtain⟨μ2,p1,p2⟩:=hs.sto.fewer (st':=st1.take k0) (by simp;omega) (fun i o hi=>.inl (by
   grind))
  have hf:∀i,i<k0→Nat.blt i k0=true:=fun i hi=>by simp_all
  have e4:Rl m φ1 [v] [u]:=⟨rfl,fun i c x hc hx=>by
   grind⟩
  have e5:Rl m (only (fun i=>Nat.blt i k0) φ1) [v] [u]:=(e4.pure (n:=8) (by grind)).any
  refine⟨only (fun i=>Nat.blt i k0) φ1,μ2,⟨fun id=>?_,by omega,fun id hid=>?_⟩,⟨hs.good.drop p1,p2.only (fun i _ hi=>hf i (by omega)) hb.2,fun id hid=>?_⟩,e5.2 0 v u rfl rfl⟩
  ·by_cases qA:id<k0
   ·have:only (fun i=>Nat.blt i k0) φ1 id=φ1 id:=by grind [only]
    rw[this];exact hA.le id
   grind
  ·have qA:=(AK.1 hid).1;obtain⟨d1,d2⟩:=hA.dead id hid
   grind [only]
  grind [Nat.blt_eq,only]
 grind
def jhx(C:Cfg):Prop:=∀f F,C.nat f=some F→j2Z (j8i C.P f) F
def jpk(gA:∀id,st0.length≤id→φ0 id=none)(hA:Ext st0 s.st φ0 φ)(hs:Sit E m φ μ s.st w)(h:EnvR m φ s.env a')
  (hx:(match mapO (resP C.P s) fn.results.toList with
   |some rs=>match aret C f st0.length rs s.st with
    |some (rs,st)=>some (AEnd.ret rs,st)
    |none=>none
   |none=>none)=some (r,st')):∃v,(results fn a'.tmps).run C.P w=.ok v w∧∃m2 φ2 μ2,Ext st0 st' φ0 φ2∧Sit E m2 φ2 μ2 st' w∧EndR m2 φ2 r (.returned v):=by
 split at hx
 ·rename_i rs qA;split at hx
  ·rename_i rs2 st2 wA;cases hx;obtain⟨us,h1,h2⟩:=jkk (C:=C) hs h qA;obtain⟨m2,φ2,μ2,h3,h4,h5,h6⟩:=jsI rfl gA hA hs h2 wA;refine⟨Gw.tup us,?_,m2,φ2,μ2,h4,h5,us,rfl,h6⟩;have h0:results fn a'.tmps=(do
     let vs ←fn.results.mapM (Gw.resM a'.tmps)
     pure (if h:vs.size=1 then vs[0] else .tuple vs)):=by
    unfold results;congr 1
   rw[h0,Sem.run_bind,FU,Sem.run_map,h1];simp only[Result.andThen_ok,Sem.run_pure,DS];congr 1;match us with
   |[]=>simp[Gw.tup]
   |[v]=>simp[Gw.tup]
   |u::v::r=>simp[Gw.tup]
  ·cases hx
 ·cases hx
def jnH(qA:∀id,st0.length≤id→φ0 id=none)(hx:endF C f fn st0.length x s=some (r,st'))(hp:jcF [] E n m0 φ0 st0 x s ex a' w'):
  bodyPostM (FF none) 0 C.P fn (fun en w'=>∃m' φ' μ',Ext st0 st' φ0 φ'∧Sit E m' φ' μ' st' w'∧EndR m' φ' r en) ex a' w':=by
 obtain⟨m',φ',μ',q1,q2,q3,q4,q5,q6,q7⟩:=hp;cases x with
 |normal=>
  obtain rfl:=q7;simp only[endF] at hx;exact j5b (by simp) q6 q3 fun w'' hA=>jpk qA q2 hA q4 hx
 |ret=>
  obtain rfl:=q7;simp only[endF] at hx;exact j5b (by simp) q6 q3 fun w'' hA=>jpk qA q2 hA q4 hx
 |pan y=>
  obtain⟨v,⟨ch,rfl,gA⟩,q8⟩:=q7;simp only[endF,AD,BB] at hx;obtain⟨rfl,rfl⟩:=hx;exact j5b (by simp) q6 q3 fun w'' hA=>(let⟨φ2,μ2,a1,a2,a3⟩:=jp3 rfl qA q2 hA q8;⟨m',φ2,μ2,a1,a2,v,⟨ch,rfl,gA⟩,a3⟩)
 |exit i=>simp[endF] at hx
def jsX(qB:C.P.follows .mixedOrders=true)(hP:jkr C.P=true)(he:EvOk C e){cl:Option PV}(gB:∀id,st0.length≤id→φ0 id=none)(hx:endD C e f fn st0.length x s cl=some (r,st'))(hp:jsy E n m0 φ0 st0 x s cl ex a' w'):
  bodyPostM (FF none) 0 C.P fn (fun en w'=>∃m' φ' μ',Ext st0 st' φ0 φ'∧Sit E m' φ' μ' st' w'∧EndR m' φ' r en) ex a' w':=by
 cases cl with
 |none=>exact jnH gB hx hp
 |some c=>
  simp only[endD] at hx;split at hx
  ·rename_i D p q v hv;obtain⟨dd,m1,φ1,⟨us,ws,rfl,hC,wB⟩,m',φ',μ',p0,p1,q1,q2,q3,q4,q5,q6,q7⟩:=hp;cases wA:j6j C e D (p++q) v s.st with
   |none=>simp[wA] at hx
   |some o=>
    obtain⟨o,st1⟩:=o;rw[wA] at hx;have hA:Gw.callable C.P D=true:=by
     unfold j6j at wA
     grind
    have main:∀u:FrameMode,u≠.run→jsx m' φ' v u→∀w'',Sit E m' φ' μ' s.st w''→LeavesInM (FF none) 0 C.P fn a'.tmps (fun en w'=>∃m' φ' μ',Ext st0 st' φ0 φ'∧Sit E m' φ' μ' st' w'∧EndR m' φ' r en) [{ target:=.fn (.func D) ws.toArray,args:=us.toArray }] u w'':=fun u hu hm w'' qA=>by
     refine⟨hu,.inr ⟨fun h=>(by cases h),.func D,ws.toArray,D,(us++ws).toArray,rfl,?_,fun _ _=>trivial,?_⟩⟩
     ·unfold Gw.callable at hA;split at hA
      ·rename_i fnD qD;rw[AB] at hA;cases hb:fnD.body with
       |none=>simp[hb] at hA
       |some body=>
        simp_all[invoke,callFunc]
      ·cases hA
     ·have gA:Rl m' φ' (p++q) (us++ws):=(hC.append wB).mono p0 p1;refine CallsDIn.mono (jqg (kk:=0-1) qB hP he wA qA gA hm) fun en u' w3 ⟨m2,φ2,μ2,k1,k2,k3,k4⟩=>?_
      cases o with
      |none=>
       obtain⟨⟨y,rfl⟩,hB⟩:=k4;show LeavesInM _ _ _ _ _ _ [] (settle u') w3
       rw[hB];exact jpk gB (q2.trans k2) k3 (s:=⟨s.env,st1⟩) (fun t y ht=>(let⟨v,h1,h2⟩:=q4 t y ht;⟨v,h1,h2.mono k1 k2.le⟩)) hx
      |some y=>
       obtain⟨c,uy,rfl,⟨c',wC,gC⟩,qC⟩:=k4;simp only[AD,BB] at hx;obtain⟨rfl,rfl⟩:=hx;show LeavesInM _ _ _ _ _ _ [] (raised u' c) w3
       rw[wC];obtain⟨φ3,μ3,a1,a2,a3⟩:=jp3 rfl gB (q2.trans k2) k3 qC;exact⟨m2,φ3,μ3,a1,a2,uy,⟨c',rfl,gC⟩,a3⟩
    cases x with
    |normal=>
     obtain rfl:=q7;simp only[jlU,AD] at hv;subst hv;exact j5b (by simp) q6 q3 fun w'' qA=>main .returning (by simp) rfl w'' qA
    |ret=>
     obtain rfl:=q7;simp only[jlU,AD] at hv;subst hv;exact j5b (by simp) q6 q3 fun w'' qA=>main .returning (by simp) rfl w'' qA
    |pan y=>
     obtain⟨uv,⟨ch,rfl,hD⟩,q8⟩:=q7;simp only[jlU,AD] at hv;subst hv;exact j5b (by simp) q6 q3 fun w'' qA=>main (.panicking ch) (by simp) ⟨uv,ch,rfl,hD,q8⟩ w'' qA
    |exit i=>simp[jlU] at hv
  ·cases hx
def jqc(gA:C.P.follows .mixedOrders=true)(hP:jkr C.P=true)(qB:jhx C)(he:EvOk C e):CallOk C.P (j6n C e):=by
 intro f args st r st' hx w m φ μ vs hs hr;unfold j6n at hx;split at hx
 ·rename_i F hF;exact qB f F hF args st r st' hx w m φ μ vs hs hr
 ·split at hx
  ·rename_i fn gB;split at hx
   ·rename_i c hc;split at hx;rotate_left
    ·cases hx
    rename_i wB;have hA:(match cutC c with
      |true=>jcd fn.ntmps c
      |false=>slots fn.ntmps c)=true:=by
     have:=AF.1 hP fn (by
      grind)
     rwa [hc] at this
    have hsz:vs.length≤fn.ntmps:=by rw[←hr.1];simp_all
    have qA:(vs.toArray++Array.replicate (fn.ntmps-vs.toArray.size) undef).size=fn.ntmps:=by simp;omega
    have hB:EnvR m φ (argE 0 args) { tmps:=vs.toArray++Array.replicate (fn.ntmps-vs.toArray.size) undef,defers:=[] }:=fun t y ht=>by
     obtain⟨_,h2⟩:=jjk ht;simp only[FH] at h2;obtain⟨v,h3,h4⟩:=hr.get h2
     grind
    split at hx
    ·rename_i wA;rw[wA] at hA;split at hx
     ·rename_i x s hex;exact(callsIn_wide (n:=0)).1 (callsIn_of_wp_marks (F:=FF none) gB hc trivial (wpIn_mono (j9C (B:=[]) (ro:=none) (n:=fn.ntmps) (E:=⟨w,m,feetOf μ⟩) gA he hex hA (fun e'=>by cases e') hs.dom (Mem.le.refl m) (Ext.refl st φ) hs hB qA Marks.nil) fun ex a' w' hp=>jnH hs.dom hx hp))
     ·cases hx
    ·rename_i wA;rw[wA] at hA;split at hx
     ·rename_i x s cl hex;exact(callsIn_wide (n:=0)).1 (callsIn_of_wp_marks (F:=FF none) gB hc trivial (wpIn_mono (jqn (n:=fn.ntmps) (E:=⟨w,m,feetOf μ⟩) gA he hex hA hs.dom (Mem.le.refl m) (Ext.refl st φ) hs hB qA rfl) fun ex a' w' hp=>jsX gA hP he hs.dom hx hp))
     ·cases hx
   ·cases hx
  ·cases hx
def jki:∀{ps:List Nat}{vs:List PV}{us:List Value}{ρ:AEnv}{tmps:Array Value},(∀t x,aget ρ t=some x→∃v,tmps[t]?=some v∧R m φ x v)→Rl m φ vs us→ps.all (fun t=>Nat.blt t tmps.size)=true →
  (∀t x,aget (jiC ps vs ρ) t=some x→∃v,((ps.zip us).foldl (fun tmps (t,a)=>tmps.setIfInBounds t a) tmps)[t]?=some v∧R m φ x v)∧((ps.zip us).foldl (fun tmps (t,a)=>tmps.setIfInBounds t a) tmps).size=tmps.size
 |[],vs,us,ρ,tmps,h,hr,hb=>by simpa[jiC] using h
 |t::ps,[],us,ρ,tmps,h,hr,hb=>by
  have:us=[]:=AJ hr.1.symm
  simp_all[jiC]
 |t::ps,v::vs,us,ρ,tmps,h,hr,hb=>by
  obtain⟨u,us',rfl,h1,h2⟩:=hr.uncons;simp only[BH,AB] at hb;have hA:∀t' x,aget (aput (some t) v ρ) t'=some x→∃v',(tmps.setIfInBounds t u)[t']?=some v'∧R m φ x v':=fun t' x ht=>by
   have qA:t<tmps.size:=by simp_all
   rcases je8 ht with⟨rfl,rfl⟩|⟨h3,h4⟩
   ·grind
   grind
  have:=jki (ps:=ps) (vs:=vs) (us:=us') (ρ:=aput (some t) v ρ) (tmps:=tmps.setIfInBounds t u) hA h2 (by simpa using hb.2)
  simpa[jiC] using this
def Sit.turnLp{r r':Loop}{s s':LpS}(hs:Sit E m φ μ st w)(hi:st[i]?=some (.lp ρ' ps as bd s))(hφ:φ i=some (.blk l))(hl:w.heap[l]?=some (.loop r))
  (hr:r'.params=r.params∧r'.assign=r.assign∧r'.body=r.body∧r'.tmps=r.tmps) (qA:s'.is r'):∃μ',Sit E m φ μ' (st.set i (.lp ρ' ps as bd s')) (w.putObj l (.loop r'))∧s.is r:=by
 obtain⟨μ1,rs,μ2,e1,e2,e3⟩:=hs.sto.get hi;rw[AP] at e2 e3;obtain⟨l',rc,h1,rfl,h2,h3,h4,h5,h6,h7,h8,h9⟩:=e2;rw[hφ] at h1;cases h1;have hA:w.heap[l]?=some (.loop rc):=hs.good.holds (.blk l (.loop rc)) (by rw[e1];simp)
 rw[hl] at hA;cases hA;have hg:Hb.Good E w m (.blk l (.loop r)::(μ1++μ2)):=hs.good.perm (by rw[e1];simp)
 have gA:l<w.heap.size:=j1Y hl;have ht:Hb.Good E (w.putObj l (.loop r')) m (.blk l (.loop r')::(μ1++μ2)):=hg.turn rfl rfl rfl (by simp) (fun b hb hf=>World.putObj_heap_other (fun e=>hf (by simp[Res.foot,e]))) (fun b o v hf hm=>by
   simp only[Res.foot,AD] at hf;subst hf;obtain⟨c,T,fr,h1,_⟩:=hg.sub _ o v hm
   grind) (World.putObj_heap_same gA) (fun b hb=>.inl ⟨hb,Nat.le_refl _⟩)
 obtain⟨k1,k2,k3,k4⟩:=hr;refine⟨μ1++([.blk l (.loop r')]++μ2),⟨ht.perm (by simpa using(DW (a:=Res.blk l (Obj.loop r')) (l₁:=μ1) (l₂:=μ2)).symm),e3 (o':=.lp ρ' ps as bd s') (rs':=[.blk l (.loop r')]) (Mem.le.refl m) (Le.refl φ) (fun _ _=>rfl) ?_,fun id hid=>hs.dom id (by simpa using hid)⟩,h2⟩
 exact⟨l,r',hφ,rfl,qA,by rw[k1];exact h3,by rw[k2];exact h4,by rw[k3];exact h5,by rw[k4];exact h6,by rw[k4];exact h7,by rw[k4];exact h8,fun t x ht=>by grind⟩
def jj9(hk:st0.length=k0)(qA:∀id,k0≤id→φ0 id=none)(hA:Ext st0 st1 φ0 φ1)(hs:Sit E m φ1 μ st1 w):∃φ2 μ2,Ext st0 (j1I k0 st1) φ0 φ2∧Sit E m φ2 μ2 (j1I k0 st1) w:=by
 unfold j1I;split
 ·rename_i hb;have hlen:(st1.take k0).length=k0:=by have:=hA.len;simp;omega
  obtain⟨μ2,p1,p2⟩:=hs.sto.fewer (st':=st1.take k0) (by simp;omega) (fun i o hi=>.inl (by
   grind))
  have hf:∀i,i<k0→Nat.blt i k0=true:=fun i hi=>by simp_all
  refine⟨only (fun i=>Nat.blt i k0) φ1,μ2,⟨fun id=>?_,by omega,fun id hid=>?_⟩,⟨hs.good.drop p1,p2.only (fun i _ hi=>hf i (by omega)) hb,fun id hid=>?_⟩⟩
  ·by_cases gA:id<k0
   ·have:only (fun i=>Nat.blt i k0) φ1 id=φ1 id:=by grind [only]
    rw[this];exact hA.le id
   grind
  ·have gA:=(AK.1 hid).1;obtain⟨d1,d2⟩:=hA.dead id hid
   grind [only]
  grind [Nat.blt_eq,only]
 ·obtain⟨φ2,μ2,g1,g2,g3,_⟩:=jt6 (ρ:=[]) (EE hk) (by have:=hA.len;omega) qA hA hs
  obtain⟨φ3,μ3,k1,k2,_⟩:=ja2 (EE hk) g1 qA g2 g3 (rfl:squeeze k0 [] (gc k0 [] st1)=_);exact⟨φ3,μ3,k1,k2⟩
def Sit.lp{s:LpS}(hs:Sit E m φ μ st w)(hi:st[i]?=some (.lp ρ' ps as bd s))(hφ:φ i=some (.blk l)):∃r,w.heap[l]?=some (.loop r)∧s.is r:=by
 obtain⟨μ1,rs,μ2,e1,e2,e3⟩:=hs.sto.get hi;rw[AP] at e2;obtain⟨l',rc,h1,rfl,h2,_⟩:=e2;rw[hφ] at h1;cases h1;exact⟨rc,hs.good.holds (.blk l (.loop rc)) (by rw[e1];simp),h2⟩
def Ext.setLp{o:SO}(h:Ext st0 st1 φ0 φ1)(hi:∀o',st0[i]?=some o'→o'≠.dead):Ext st0 (st1.set i o) φ0 φ1:=
 ⟨h.le,by simpa using h.len,fun id hid=>by
  obtain⟨d1,d2⟩:=h.dead id hid
  grind⟩
def jpW(gA:C.P.follows .mixedOrders=true)(he:EvOk C e):j2Z (YieldD C.P) (jat C e):=by
 intro args st r st' hx w m φ μ vs hs hr;unfold jat at hx;split at hx;rotate_left
 ·cases hx
 rename_i id ws;split at hx;rotate_left
 ·cases hx
 rename_i ρ ps as bd qC;split at hx;rotate_left
 ·cases hx
 rename_i s1 hlen hex;rw[AB,AB] at hlen;obtain⟨hlen,wD,gD⟩:=hlen;split at hx;rotate_left
 ·cases hx
 rename_i ρ1 ps1 as1 bd1 qA;obtain⟨v0,us,rfl,hy,qB⟩:=hr.uncons;cases hy with
 | @yl _ _ l hφ=>
  obtain⟨μ1,rs,μ2,e1,e2,e3⟩:=hs.sto.get qC;rw[AP] at e2;obtain⟨l',rec,h1,rfl,h2,h3,h4,h5,h6,h7,h8,h9⟩:=e2;rw[hφ] at h1;cases h1;have hl:w.heap[l]?=some (.loop rec):=hs.good.holds (.blk l (.loop rec)) (by rw[e1];simp)
  obtain⟨hρ,hsz⟩:=jki h9 qB h8;have wA:(rec.params.zip us.toArray).foldl (fun tmps (t,a)=>tmps.setIfInBounds t a) rec.tmps=(ps.zip us).foldl (fun tmps (t,a)=>tmps.setIfInBounds t a) rec.tmps:=by
   grind
  refine⟨l,us,rec.fn,_,rec.assign,rec.body,rfl,run_yield hl (by rw[h3];simp;have:=AH hlen;rw[←qB.1];exact this),fun k=>?_⟩
  rw[wA,h4,h5];have gB:∀o',st[id]?=some o'→o'≠.dead:=fun o' ho=>by grind
  cases hB:exec C e bd ⟨s1.env,s1.st.set id (.lp ρ1 ps1 as1 bd1 .busy)⟩ with
  |none=>simp[hB] at hx
  |some res=>
  obtain⟨x,s2⟩:=res;rw[hB] at hx;simp only at hx;split at hx;rotate_left
  ·cases hx
  rename_i ρ2 ps2 as2 bd2 hA;refine roundIn_of_wpIn (F:=Fence.wide) trivial ?_;refine wpIn_mono (j9C (ro:=some l) (n:=rec.tmps.size) (E:=⟨w,m,feetOf μ⟩) gA he hex h6 (fun _=>wD) hs.dom (Mem.le.refl m) (Ext.refl st φ) hs hρ hsz Marks.nil) ?_
  rintro ex a1 w1 ⟨m1,φ1,μ1',q1,q2,q3,q4,q5,q6,q7⟩;obtain rfl:=q7;have hφ1:φ1 id=some (.blk l):=(q2.le id).1 l hφ;obtain⟨r1,hC,qD⟩:=q3.lp qA hφ1;obtain⟨μ3,wC,_⟩:=q3.turnLp (r':={ r1 with state:=.busy }) (s':=.busy) qA hφ1 hC ⟨rfl,rfl,rfl,rfl⟩ rfl
  have q6':Marks [] ⟨w,m,feetOf μ⟩ a1.defers (w1.putObj l (.loop { r1 with state:=.busy })):=q6.of fun b hb=>World.putObj_heap_other (fun e'=>by
   grind)
  refine⟨_,run_beginRound hC qD.1,?_⟩;refine wpIn_mono (j9C (ro:=some l) (n:=rec.tmps.size) (E:=⟨w,m,feetOf μ⟩) (m0:=m) (φ0:=φ) (st0:=st) gA he hB h7 (fun _=>gD) hs.dom q1 (q2.setLp gB) wC q4 q5 q6') ?_
  rintro ex a2 w3 ⟨m2,φ2,μ4,p1,p2,p3,p4,p5,p6,p7⟩;have hφ2:φ2 id=some (.blk l):=(p2.le id).1 l hφ;obtain⟨r2,wB,kE⟩:=p3.lp hA hφ2;have fin:∀(jump:Option Code) (ls:LpS) (b:Bool),b=jump.isNone→ls.is { r2 with state:=if jump.isNone then .ready else .done,pending:=jump }→(r,st')=(.ret [.sc (.bool b)],j1I st.length (s2.st.set id (.lp ρ2 ps2 as2 bd2 ls))) →
    ∃v w',(Instr.endRound l jump).run C.P w3=.ok v w'∧∃m' φ' μ',Ext st st' φ φ'∧Sit ⟨w,m,feetOf μ⟩ m' φ' μ' st' w'∧EndR m' φ' r (.returned v):=fun jump ls b hb hE hD=>by
   cases hD;obtain⟨μ5,gC,_⟩:=p3.turnLp (r':={ r2 with state:=if jump.isNone then .ready else .done,pending:=jump }) (s':=ls) hA hφ2 wB ⟨rfl,rfl,rfl,rfl⟩ hE
   obtain⟨φ5,μ6,k1,k2⟩:=jj9 rfl hs.dom (p2.setLp (o:=.lp ρ2 ps2 as2 bd2 ls) gB) gC;exact⟨_,_,run_endRound jump wB,m2,φ5,μ6,k1,k2,[.bool jump.isNone],rfl,by rw[hb];exact .cons (.sc rfl) .nil⟩
  cases x with
  |normal=>
   obtain rfl:=p7;exact fin none .ready true rfl ⟨rfl,rfl⟩ (BP hx).symm
  |ret=>
   obtain rfl:=p7;exact fin (some .ret) (.done none) false rfl ⟨rfl,rfl⟩ (BP hx).symm
  |exit i=>
   obtain rfl:=p7;exact fin (some (.exit i)) (.done (some i)) false rfl ⟨rfl,rfl⟩ (BP hx).symm
  |pan v=>cases hx
def ji3(hA:C.P.follows .mixedOrders=true)(hP:jkr C.P=true)(qA:jhx C):∀n,EvOk C (ev C n)
 |0=>⟨fun f args st r st' h=>by simp[ev] at h,fun ks k0 c s x s' h=>by simp[ev] at h,fun args st r st' h=>by simp[ev] at h⟩
 |n+1=>⟨jqc hA hP qA (ji3 hA hP qA n),jqN hA (ji3 hA hP qA n),jpW hA (ji3 hA hP qA n)⟩
end

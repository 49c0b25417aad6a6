/- A region that draws its order, in the plain machine: the model does the same in whatever order. Plain lemmas, no statement of the seat. -/
import Derived.Test.YtnfbeplfnblgjaaGreatDoorZAh
set_option linter.all false
namespace Go.Am
open Go Go.Hb
open Go.Gw (tk tf tz tsl tar tpl isAggD looks deps statOk stat_one ready_ne cnt cnt_set getD_true_of getD_set)
theorem aonly_get{ls:List Nat}:∀{ρ:AEnv}{t:Nat}{x:PV},aget (aonly ls ρ) t=some x→aget ρ t=some x∧t∈ls
 |[],t,x,h=>by simp[aonly,aget] at h
 |(k,v)::r,t,x,h=>by
  simp only[aonly] at h;split at h
  ·rename_i hk;simp only[aget] at h⊢;split at h
   ·simp_all
   ·rename_i hb;exact aonly_get h
  ·rename_i hk;obtain⟨h1,h2⟩:=aonly_get h;simp only[aget];split
   ·simp_all
   ·exact⟨h1,h2⟩
section
variable{D:List Deferred}{P:Program}{E:Entry}{m:Mem}{φ:Ph}{μ:Own}{st:Sto}{ρ:AEnv}{a:Act}{w:World}{C:Cfg}{e:Ev}{n:Nat}
structure Run (C:Cfg) (e:Ev) (ops:Array Oper) (Z:Nat→Bool) (l:List Oper) (s s':AS) (tr:List Tr) (ρs:Nat→AEnv) (sts:Nat→Sto):Prop where
 len:tr.length=l.length
 e0:ρs 0=s.env
 e1:ρs l.length=s'.env
 s0:sts 0=s.st
 s1:sts l.length=s'.st
 at_:∀(i:Nat) o t,l[i]?=some o→tr[i]?=some t→(t.b=sts i∧t.tch=touch (aonly (looks ops o) (ρs i)) (sts i) o.op)∧t.f=sts (i+1)∧((Z i=false∧∃v,drawOp C e ops o (aonly (looks ops o) (ρs i)) (sts i)=some (v,sts (i+1),t.d)∧ρs (i+1)=aput o.dst v (ρs i))∨(Z i=true∧sts (i+1)=sts i∧ρs (i+1)=ρs i∧t.d≠.al))
variable{s s':AS}{A:Array Bool}{ops:Array Oper}{d:DK}{Q:Exit→Act→World→Prop}{L:List (List Nat×Sto)}{K:List Nat}{l:List Oper}{W:List Row4}{tr:List Tr}{m0:Mem}{i id j k k' q:Nat}{ρs:Nat→AEnv}{Z:Nat→Bool}{sts:Nat→Sto}{o:Oper}{v:PV}{φ0:Ph}{sf st' st0:Sto}{t:Tr}{u:Value}
theorem Run.nil:Run C e ops Z [] s s [] (fun _=>s.env) (fun _=>s.st):=
 ⟨rfl,rfl,rfl,rfl,rfl,fun i o t ho=>by simp at ho⟩
theorem Run.cons{s1:AS}{t0:Tr}(hrun:Run C e ops (fun i=>Z (i+1)) l s1 s' tr ρs sts)(hb:t0.b=s.st)(ht:t0.tch=touch (aonly (looks ops o) s.env) s.st o.op)(hf:t0.f=s1.st)
  (h:(Z 0=false∧∃v,drawOp C e ops o (aonly (looks ops o) s.env) s.st=some (v,s1.st,t0.d)∧s1.env=aput o.dst v s.env)∨(Z 0=true∧s1.st=s.st∧s1.env=s.env∧t0.d≠.al)):∃ρs sts,Run C e ops Z (o::l) s s' (t0::tr) ρs sts:=by
 refine⟨fun i=>match i with
  |0=>s.env
  |i+1=>ρs i,fun i=>match i with
  |0=>s.st
  |i+1=>sts i,by simp[hrun.len],rfl,hrun.e1,rfl,hrun.s1,fun i o' t ho ht'=>?_⟩
 cases i with
 |zero=>
  simp only[List.getElem?_cons_zero,Option.some.injEq] at ho ht';subst ho;subst ht';refine⟨⟨hb,ht⟩,hf.trans hrun.s0.symm,?_⟩;simp only[hrun.s0,hrun.e0];exact h
 |succ i=>exact hrun.at_ i o' t (by simpa using ho) (by simpa using ht')
theorem drawRest_run{ops:Array Oper}{cl:List (List Nat)}{q:Nat}:∀{l:List Oper}{i:Nat}{s s':AS}{tr:List Tr},drawRest C e ops cl q l i s=some (s',tr)→∃ρs sts,Run C e ops (fun k=>hangs cl q (i+k)) l s s' tr ρs sts
 |[],i,s,s',tr,h=>by
  simp only[drawRest,Option.some.injEq,Prod.mk.injEq] at h;obtain⟨rfl,rfl⟩:=h;exact⟨_,_,Run.nil⟩
 |o::l,i,s,s',tr,h=>by
  simp only[drawRest] at h;have sh:∀{s2:AS}{l2:List Tr}{s1:AS},drawRest C e ops cl q l (i+1) s1=some (s2,l2)→∃ρs sts,Run C e ops (fun k=>hangs cl q (i+(k+1))) l s1 s2 l2 ρs sts:=fun hr=>by
   obtain⟨ρs,sts,hrun⟩:=drawRest_run hr
   grind
  split at h
  ·rename_i hh;split at h
   ·rename_i s2 l2 hr;cases h;obtain⟨ρs,sts,hrun⟩:=sh hr;exact Run.cons (Z:=fun k=>hangs cl q (i+k)) hrun rfl rfl rfl (.inr ⟨by simpa using hh,rfl,rfl,by simp⟩)
   ·cases h
  ·rename_i hh;split at h
   ·rename_i v st1 d hd;split at h
    ·rename_i s2 l2 hr;cases h;obtain⟨ρs,sts,hrun⟩:=sh hr;exact Run.cons (Z:=fun k=>hangs cl q (i+k)) hrun rfl rfl rfl (.inl ⟨by simpa using hh,v,hd,rfl⟩)
    ·cases h
   ·cases h
theorem drawPan_run{ops:Array Oper}{cl:List (List Nat)}:∀{l:List Oper}{i:Nat}{s:AS}{v:PV}{st:Sto}{tr:List Tr},drawPan C e ops cl l i s=some (v,st,tr) →
  ∃q s' ρs sts,Run C e ops (fun k=>Nat.ble q k&&(Nat.beq k q||hangs cl (i+q) (i+k))) l s s' tr ρs sts∧∃o t,l[q]?=some o∧tr[q]?=some t∧t.d=.a∧panOp C e ops o (aonly (looks ops o) (ρs q)) (sts q)=some (v,st)∧drawOp C e ops o (aonly (looks ops o) (ρs q)) (sts q)=none
 |[],i,s,v,st,tr,h=>by simp[drawPan] at h
 |o::l,i,s,v,st,tr,h=>by
  simp only[drawPan] at h;split at h
  ·rename_i v1 st1 d hd;split at h
   ·rename_i x st' l2 hr;cases h;obtain⟨q,s',ρs,sts,hrun,o',t',h1,h2,h3,h4⟩:=drawPan_run hr;have hZ:(fun k=>Nat.ble q k&&(Nat.beq k q||hangs cl (i+1+q) (i+1+k)))=fun k=>(fun k=>Nat.ble (q+1) k&&(Nat.beq k (q+1)||hangs cl (i+(q+1)) (i+k))) (k+1):=by
     funext k
     have e1:Nat.ble (q+1) (k+1)=Nat.ble q k:=rfl;have e2:Nat.beq (k+1) (q+1)=Nat.beq k q:=rfl
     grind
    rw[hZ] at hrun;have hrun':=hrun;refine⟨q+1,s',fun i=>match i with
     |0=>s.env
     |i+1=>ρs i,fun i=>match i with
     |0=>s.st
     |i+1=>sts i,⟨by simp[hrun.len],rfl,hrun.e1,rfl,hrun.s1,fun i' o1 t1 ho ht=>?_⟩,o',t',by simpa using h1,by simpa using h2,h3,h4⟩
    cases i' with
    |zero=>
     simp only[List.getElem?_cons_zero,Option.some.injEq] at ho ht;subst ho;subst ht;refine⟨⟨rfl,rfl⟩,hrun.s0.symm,.inl ⟨rfl,v1,?_,hrun.e0⟩⟩;simp only[hrun.s0];exact hd
    |succ i'=>exact hrun.at_ i' o1 t1 (by simpa using ho) (by simpa using ht)
   ·cases h
  ·rename_i hnone;split at h
   ·rename_i v1 st1 hp;split at h
    ·rename_i s2 l2 hr;cases h;obtain⟨ρs,sts,hrun⟩:=drawRest_run hr;have hZ:(fun k=>hangs cl i (i+1+k))=fun k=>(fun k=>Nat.ble 0 k&&(Nat.beq k 0||hangs cl (i+0) (i+k))) (k+1):=by
      funext k
      have e1:Nat.ble 0 (k+1)=true:=rfl;have e2:Nat.beq (k+1) 0=false:=rfl
      grind
     rw[hZ] at hrun;refine⟨0,s2,fun i=>match i with
      |0=>s.env
      |i+1=>ρs i,fun i=>match i with
      |0=>s.st
      |i+1=>sts i,⟨by simp[hrun.len],rfl,hrun.e1,rfl,hrun.s1,fun i' o1 t1 ho ht=>?_⟩,o,_,rfl,rfl,rfl,hp,hnone⟩
     cases i' with
     |zero=>
      simp only[List.getElem?_cons_zero,Option.some.injEq] at ho ht;subst ho;subst ht;exact⟨⟨rfl,rfl⟩,hrun.s0.symm,.inr ⟨rfl,hrun.s0,hrun.e0,by simp⟩⟩
     |succ i'=>exact hrun.at_ i' o1 t1 (by simpa using ho) (by simpa using ht)
    ·cases h
   ·cases h
theorem Run.tail(h:Run C e ops Z (o::l) s s' (t::tr) ρs sts):Run C e ops (fun i=>Z (i+1)) l ⟨ρs 1,sts 1⟩ s' tr (fun i=>ρs (i+1)) (fun i=>sts (i+1)):=
 ⟨by simpa using h.len,rfl,h.e1,rfl,h.s1,fun i o1 t1 ho ht=>h.at_ (i+1) o1 t1 (by simpa using ho) (by simpa using ht)⟩
def RowsAt(C:Cfg)(e:Ev)(ops:Array Oper)(Z:Nat→Bool)(l:List Oper)(W:List Row4)(ρs:Nat→AEnv)(sts:Nat→Sto):Prop:=∀(j:Nat) o,l[j]?=some o→(Z j=false→∃v d,W[j]?=some (o,aonly (looks ops o) (ρs j),v,d)∧drawOp C e ops o (aonly (looks ops o) (ρs j)) (sts j)=some (v,sts (j+1),d)∧ρs (j+1)=aput o.dst v (ρs j))∧(Z j=true→W[j]?=some (o,aonly (looks ops o) (ρs j),.un,.p))
theorem restEnvs_at{ops:Array Oper}{cl:List (List Nat)}{q:Nat}:∀{l:List Oper}{i:Nat}{s s':AS}{tr:List Tr}{Z:Nat→Bool}{ρs:Nat→AEnv}{sts:Nat→Sto},Run C e ops Z l s s' tr ρs sts→(∀k,Z k=hangs cl q (i+k))→RowsAt C e ops Z l (restEnvs C e ops cl q l i s) ρs sts
 |[],i,s,s',tr,Z,ρs,sts,hr,hZ=>fun j o ho=>by simp at ho
 |o::l,i,s,s',tr,Z,ρs,sts,hr,hZ=>by
  cases tr with
  |nil=>exact absurd hr.len (by simp)
  |cons t tr=>
   have h0:=hr.at_ 0 o t rfl rfl;have e0:=hr.e0;have s0:=hr.s0;have ht:=hr.tail;obtain⟨env,st⟩:=s;dsimp only at e0 s0
   intro j o1 ho;rcases h0.2.2 with⟨hz,v,hd,hp⟩|⟨hz,hs1,hp1,_⟩
   ·rw[e0,s0] at hd;rw[e0] at hp;have hg:hangs cl q i=false:=by rw[←hz,hZ 0];rfl
    have ih:=restEnvs_at (i:=i+1) ht (fun k=>by rw[hZ (k+1)];congr 1;omega)
    rw[hp] at ih;simp only[restEnvs,hg,hd];cases j with
    |zero=>
     simp only[List.getElem?_cons_zero,Option.some.injEq] at ho;subst ho;exact⟨fun _=>⟨v,_,by rw[List.getElem?_cons_zero,e0],by rw[e0,s0];exact hd,by rw[e0];exact hp⟩,fun h=>by rw[hz] at h;cases h⟩
    |succ j=>
     simp only[List.getElem?_cons_succ] at ho⊢;exact ih j o1 ho
   ·have hg:hangs cl q i=true:=by rw[←hz,hZ 0];rfl
    have ih:=restEnvs_at (i:=i+1) ht (fun k=>by rw[hZ (k+1)];congr 1;omega)
    rw[hp1,hs1,e0,s0] at ih;simp only[restEnvs,hg];cases j with
    |zero=>
     simp only[List.getElem?_cons_zero,Option.some.injEq] at ho;subst ho;exact⟨fun h=>(by rw[hz] at h;cases h),fun _=>by rw[List.getElem?_cons_zero,e0]⟩
    |succ j=>
     simp only[List.getElem?_cons_succ] at ho⊢;exact ih j o1 ho
theorem panEnvs_at{ops:Array Oper}{cl:List (List Nat)}:∀{l:List Oper}{i q:Nat}{s s':AS}{tr:List Tr}{Z:Nat→Bool}{ρs:Nat→AEnv}{sts:Nat→Sto}{oq:Oper},Run C e ops Z l s s' tr ρs sts→(∀k,Z k=(Nat.ble q k&&(Nat.beq k q||hangs cl (i+q) (i+k))))→l[q]?=some oq→drawOp C e ops oq (aonly (looks ops oq) (ρs q)) (sts q)=none→(panEnvs C e ops cl l i s).1=i+q∧RowsAt C e ops Z l (panEnvs C e ops cl l i s).2 ρs sts
 |[],i,q,s,s',tr,Z,ρs,sts,oq,hr,hZ,ho,hn=>by simp at ho
 |o::l,i,q,s,s',tr,Z,ρs,sts,oq,hr,hZ,hoq,hn=>by
  cases tr with
  |nil=>exact absurd hr.len (by simp)
  |cons t tr=>
   have h0:=hr.at_ 0 o t rfl rfl;have e0:=hr.e0;have s0:=hr.s0;have ht:=hr.tail;obtain⟨env,st⟩:=s;dsimp only at e0 s0;cases q with
   |zero=>
    simp only[List.getElem?_cons_zero,Option.some.injEq] at hoq;subst hoq;rw[e0,s0] at hn;have hz:Z 0=true:=by rw[hZ 0];rfl
    rcases h0.2.2 with⟨hz',_⟩|⟨_,hs1,hp1,_⟩
    ·rw[hz] at hz';cases hz'
    have ih:=restEnvs_at (q:=i) (cl:=cl) (i:=i+1) ht (fun k=>by
     rw[hZ (k+1)];have e1:Nat.ble 0 (k+1)=true:=rfl;have e2:Nat.beq (k+1) 0=false:=rfl;rw[e1,e2,Bool.true_and,Bool.false_or];congr 1;omega)
    rw[hp1,hs1,e0,s0] at ih;simp only[panEnvs,hn];refine⟨rfl,fun j o1 ho=>?_⟩
    cases j with
    |zero=>
     simp only[List.getElem?_cons_zero,Option.some.injEq] at ho;subst ho;exact⟨fun h=>(by rw[hz] at h;cases h),fun _=>by rw[List.getElem?_cons_zero,e0]⟩
    |succ j=>
     simp only[List.getElem?_cons_succ] at ho⊢;exact ih j o1 ho
   |succ q=>
    have hz:Z 0=false:=by rw[hZ 0];rfl
    rcases h0.2.2 with⟨_,v,hd,hp⟩|⟨hz',_⟩
    rotate_left
    ·rw[hz] at hz';cases hz'
    rw[e0,s0] at hd;rw[e0] at hp;obtain⟨ih1,ih2⟩:=panEnvs_at (cl:=cl) (i:=i+1) (q:=q) (oq:=oq) ht (fun k=>by
     rw[hZ (k+1)];have e1:Nat.ble (q+1) (k+1)=Nat.ble q k:=rfl;have e2:Nat.beq (k+1) (q+1)=Nat.beq k q:=rfl;rw[e1,e2,show i+(q+1)=i+1+q by omega,show i+(k+1)=i+1+k by omega]) (by simpa using hoq) hn
    rw[hp] at ih1 ih2;simp only[panEnvs,hd];refine⟨by rw[ih1];omega,fun j o1 ho=>?_⟩
    cases j with
    |zero=>
     simp only[List.getElem?_cons_zero,Option.some.injEq] at ho;subst ho;exact⟨fun _=>⟨v,_,by rw[List.getElem?_cons_zero,e0],by rw[e0,s0];exact hd,by rw[e0];exact hp⟩,fun h=>by rw[hz] at h;cases h⟩
    |succ j=>
     simp only[List.getElem?_cons_succ] at ho⊢;exact ih2 j o1 ho
theorem actK_or(ops:Array Oper)(o:Oper):actK ops o=.a∨actK ops o=.al:=by
 grind [actK]
theorem drawOp_same{st:Sto}(h:drawOp C e ops o ρ st=some (v,st',d))(hd:d≠.a)(hd':d≠.al):st'=st:=by
 unfold drawOp at h;split at h
 ·cases h;rfl
 ·split at h
  ·cases h;rfl
  ·split at h
   ·grind
   ·split at h
    ·cases h;rfl
    ·split at h
     ·cases h;rcases actK_or ops o with e|e
      ·exact absurd e hd
      ·exact absurd e hd'
     ·grind
     ·cases h
 ·cases h
theorem drawOp_al{st:Sto}(h:drawOp C e ops o ρ st=some (v,st',.al)):∃T t cs,o.op=.alloc T∧o.dst=some t∧soloAl ops t=true∧zeroP C.P T=some cs∧v=.bp st.length 0∧st'=st++[.box T cs]∧guardP ops ρ o.guard=some true:=by
 unfold drawOp at h;split at h
 ·cases h
 ·rename_i hg;split at h
  ·cases h
  ·split at h
   ·grind
   ·split at h
    ·cases h
    grind [Option.some.injEq,Prod.mk.injEq,actK,aS,sAlloc]
 ·cases h
theorem drawOp_off{st:Sto}(h:drawOp C e ops o ρ st=some (v,st',.a))(hi:i<st.length)(ht:(touch ρ st o.op).elem i=false):st'[i]?=st[i]?:=by
 unfold drawOp at h;split at h
 ·cases h
 ·split at h
  ·cases h
  ·split at h
   ·grind
   ·split at h
    ·cases h
    ·split at h
     ·rename_i h1;simp only[Option.some.injEq,Prod.mk.injEq] at h;obtain⟨rfl,rfl,_⟩:=h;exact touch_off h1 hi ht
     ·rename_i h1;cases h;exact touch_off h1 hi ht
     ·cases h
 ·cases h
theorem Run.off(hr:Run C e ops Z ops.toList s s' tr ρs sts)(ht:tr[i]?=some t)(ha:t.d=.a)(h:offOk t id=true):t.b[id]?=t.f[id]?:=by
 have hi:i<ops.toList.length:=by rw[←hr.len];grind
 obtain⟨⟨h1,h2⟩,h3,⟨_,v,h4,_⟩|⟨_,h4,_,_⟩⟩:=hr.at_ i _ t (List.getElem?_eq_getElem hi) ht
 rotate_left
 ·rw[h1,h3,h4]
 unfold offOk at h;rw[Bool.and_eq_true,h2] at h;rw[ha] at h4;have hlt:id<t.b.length:=by simp_all
 rw[h1] at hlt⊢;rw[h3];exact(drawOp_off h4 hlt (by simpa using h.2)).symm
theorem flatMap_congr'{α β:Type}{f g:α→List β}:∀{l:List α},(∀x∈l,f x=g x)→l.flatMap f=l.flatMap g
 |[],_=>rfl
 |x::l,h=>by
  rw[List.flatMap_cons,List.flatMap_cons,h x List.mem_cons_self,flatMap_congr' fun y hy=>h y (List.mem_cons_of_mem _ hy)]
theorem clos_grow:∀{l:List Oper}{acc:List (List Nat)}{i:Nat},i<acc.length→(clos acc l).getD i []=acc.getD i []
 |[],acc,i,_=>rfl
 |o::l,acc,i,h=>by
  simp only[clos];rw[clos_grow (by simp;omega),List.getD_eq_getElem?_getD,List.getElem?_append_left h,List.getD_eq_getElem?_getD]
theorem clos_at:∀{l:List Oper}{acc:List (List Nat)}{j:Nat}{o:Oper},l[j]?=some o→(∀x∈deps o,x<acc.length+j)→(clos acc l).getD (acc.length+j) []=deps o++(deps o).flatMap fun i=>(clos acc l).getD i []
 |[],acc,j,o,h,_=>by simp at h
 |q::l,acc,0,o,h,hd=>by
  simp at h;subst h;simp only[clos,Nat.add_zero] at hd⊢;rw[clos_grow (by simp)]
  rw[List.getD_eq_getElem?_getD,List.getElem?_append_right (Nat.le_refl _)];simp only[Nat.sub_self,List.getElem?_cons_zero,Option.getD_some];congr 1;refine flatMap_congr' fun i hi=>?_
  have hlt:=hd i hi;rw[clos_grow (by simp;omega),List.getD_eq_getElem?_getD,List.getD_eq_getElem?_getD,List.getElem?_append_left hlt]
 |q::l,acc,j+1,o,h,hd=>by
  simp only[clos];have:=clos_at (l:=l) (acc:=acc++[deps q++(deps q).flatMap fun i=>acc.getD i []]) (j:=j) (o:=o) (by simpa using h) (fun x hx=>by grind)
  grind
theorem allFrom_get{α:Type}{f:Nat→α→Bool}:∀{l:List α}{k i:Nat}{x:α},allFrom f k l=true→l[i]?=some x→f (k+i) x=true
 |[],k,i,x,_,h=>by simp at h
 |y::l,k,i,x,h,hx=>by
  simp only[allFrom,Bool.and_eq_true] at h;cases i with
  |zero=>grind
  |succ i=>
   have:=allFrom_get (k:=k+1) h.2 (show l[i]?=some x by simpa using hx)
   grind
theorem stat2_one(h:statOk2 ops=true)(ho:ops[i]?=some o):(∀x∈deps o,x<i)∧∀k o' d,ops[k]?=some o'→o'.dst=some d →
  (k=i→d∉looks ops o)∧(k≠i→(d∈looks ops o→k∈deps o∨i∈(clos [] ops.toList).getD k [])∧o.dst≠some d):=by
 unfold statOk2 at h;have h1:=allFrom_get h (i:=i) (x:=o) (by simpa using ho)
 simp only[Nat.zero_add,Bool.and_eq_true] at h1;refine⟨fun x hx=>by simp_all,fun k o' d hk hd=>?_⟩
 have h2:=allFrom_get h1.2 (i:=k) (x:=o') (by simpa using hk)
 simp only[Nat.zero_add,stat2Pair,hd] at h2;refine⟨fun e=>?_,fun e=>?_⟩
 ·grind
 ·have:Nat.beq k i=false:=by
   cases hb:Nat.beq k i with
   |false=>rfl
   |true=>simp_all
  grind
theorem ready_ne'(hst:statOk2 ops=true)(hA:A.size=ops.size)(hi:i<ops.size)(hf:A.getD i true=false):Region.ready .any ops A≠[]:=by
 induction i using Nat.strongRecOn with
 |_ i ih=>
  obtain⟨o,ho⟩:∃o,ops[i]?=some o:=⟨_,Array.getElem?_eq_getElem hi⟩
  by_cases hd:∀x∈deps o,A.getD x false=true
  ·intro e;have:i∈Region.ready .any ops A:=by
    unfold Region.ready;rw[List.mem_filter];refine⟨List.mem_range.2 hi,?_⟩;simp only[hf,Bool.not_false,Bool.true_and,ho,Option.map_some,Option.getD_some]
    grind [deps]
   grind
  ·simp only[Classical.not_forall] at hd;obtain⟨x,hx,hxf⟩:=hd;have hlt:=(stat2_one hst ho).1 x hx
   grind
theorem clos_lt(hst:statOk2 ops=true):∀(j:Nat) o,ops[j]?=some o→∀i∈(clos [] ops.toList).getD j [],i<j:=by
 intro j
 induction j using Nat.strongRecOn with
 |_ j ih=>
  intro o ho i hi;have hlt:=(stat2_one hst ho).1;have:=clos_at (l:=ops.toList) (acc:=[]) (j:=j) (o:=o) (by simpa using ho) (fun x hx=>by simpa using hlt x hx)
  grind
theorem clos_down(hst:statOk2 ops=true)(hd:∀(i:Nat) o,ops[i]?=some o→A.getD i true=true→∀x∈deps o,A.getD x true=true):∀(j:Nat) o,ops[j]?=some o→(∀x∈deps o,A.getD x true=true)→∀i∈(clos [] ops.toList).getD j [],A.getD i true=true:=by
 intro j
 induction j using Nat.strongRecOn with
 |_ j ih=>
  intro o ho hdep i hi;have hlt:=(stat2_one hst ho).1;have:=clos_at (l:=ops.toList) (acc:=[]) (j:=j) (o:=o) (by simpa using ho) (fun x hx=>by simpa using hlt x hx)
  grind
theorem eqL_eq{α:Type}{f:α→α→Bool}(hf:∀x y,f x y=true→x=y):∀{a b:List α},eqL f a b=true→a=b
 |[],[],_=>rfl
 |x::r,y::s,h=>by
  simp only[eqL,Bool.and_eq_true] at h;rw[hf x y h.1,eqL_eq hf h.2]
 |[],_::_,h=>by simp[eqL] at h
 |_::_,[],h=>by simp[eqL] at h
theorem eqV_eq{v:Value}(h:eqV u v=true):u=v:=by
 unfold eqV at h
 grind
theorem eqPV_eq:∀(n:Nat) (x y:PV),eqPV n x y=true→x=y
 |0,_,_,h=>by simp[eqPV] at h
 |n+1,x,y,h=>by
  simp only[eqPV] at h;split at h
  ·rw[eqV_eq h]
  ·rw[eqL_eq (eqPV_eq n) h]
  ·simp only[Bool.and_eq_true,beq_iff_eq] at h;obtain⟨⟨rfl,h2⟩,h3⟩:=h;rw[Nat.eq_of_beq_eq_true h2,eqL_eq (eqPV_eq n) h3]
  ·simp_all
  ·simp_all
  ·cases h
theorem eqAt_eq{x y:Sto}(h:eqAt id x y=true):x[id]?=y[id]?:=by
 unfold eqAt at h;split at h
 ·rename_i p q hp hq;rw[hp,hq];congr 1;unfold eqSO at h;split at h
  ·simp only[Bool.and_eq_true] at h;rw[Nat.eq_of_beq_eq_true h.1,eqL_eq (eqPV_eq 6) h.2]
  ·rw[eqL_eq (eqPV_eq 6) h]
  ·simp only[Bool.and_eq_true,beq_iff_eq] at h;obtain⟨⟨⟨rfl,h2⟩,h3⟩,h4⟩:=h;rw[Nat.eq_of_beq_eq_true h2,Nat.eq_of_beq_eq_true h3,eqL_eq (eqPV_eq 6) h4]
  ·cases h
 ·cases h
theorem aK_at{P:Program}{st:Sto}{op:Op}(h:aK P ρ st op=some v)(hid:lookId ρ op=some id)(he:st'[id]?=st[id]?):aK P ρ st' op=some v:=by
 unfold aK at h⊢;unfold lookId at hid;split at h
 ·grind [rowIdx]
 ·grind [loadS]
 ·grind [rowLen,objLen]
 ·grind
 ·rename_i T x i ok;simp only at hid⊢;split at hid
  ·rename_i id' hx;cases hid;rw[hx] at h⊢;split at h
   ·rename_i px pi hp hi;cases hp;unfold mapGet at h ⊢
    grind
   ·cases h
  ·cases hid
 ·grind
 ·cases h
theorem call_run{P:Program}{dst:Option Nat}{ty:TypeId}{pos:String}{after:Array Edge}{gd:Option (Nat×Bool)}{g:Operand}{xs:Array Operand}{ts:Array TypeId}{f:FuncId}{as vs bs:List PV}(h:EnvR m φ ρ a)(hg:aval ρ g=some (.fn f as bs))(hvs:mapO (aval ρ) xs.toList=some vs)(hcall:Gw.callable P f=true):
  ∃us,Rl m φ (as++vs++bs) us∧(execOp a.eval ⟨dst,.call ⟨.value g,xs,ts⟩,ty,pos,after,gd⟩).run P w=.ok (.enter f us.toArray) w:=by
 have rg:=aval_R h hg;have rv:=avals_R h hvs;generalize heg:a.eval g=eg at rg;cases rg with
 | @fn _ _ _ _ us ws hl hl' hi hi'=>
  refine⟨us++xs.toList.map a.eval++ws,(Rl.append ⟨hl,hi⟩ rv).append ⟨hl',hi'⟩,?_⟩;unfold Gw.callable at hcall;split at hcall
  ·rename_i fn hfn;rw[Bool.and_eq_true] at hcall;cases hb:fn.body with
   |none=>simp[hb] at hcall
   |some body=>
    have hne:¬fn.name = "runtime.NumGoroutine" :=by simpa using hcall.2
    have ex:xs.map a.eval=(xs.toList.map a.eval).toArray:=by apply Array.ext';simp
    simp[execOp,resolve,Deferred.ofValue,heg,invoke,callFunc,hfn,hne,hb,ex]
  ·cases hcall
theorem pureAct_ok{next:Act→World→Prop}(he:CallOk C.P e.call)(hs:Sit E m φ μ st w)(h:EnvR m φ ρ a)(hx:pureAct C e ρ o.op=some v)
  (hn:∀u w' m' φ' μ',Mem.le m m'→Ext st st φ φ'→Sit E m' φ' μ' st w'→R m' φ' v u→next (a.put o.dst u) w'):o.wp C.P a w next Q:=by
 obtain⟨dst,op,ty,pos,after,gd⟩:=o;simp only at hx hn;unfold pureAct at hx;split at hx
 ·rename_i T len parts;split at hx
  ·rename_i b z xs st1 hb;cases hx;have hb':sBuildSlice C.P (C.lit T) ρ st T len parts=some (.val (.sl b z xs) st):=by
    unfold sBuildSlice at hb⊢;split at hb
    ·split at hb
     ·split at hb
      ·split at hb
       ·split at hb
        ·grind
        ·cases hb
       ·cases hb
      ·cases hb
     ·cases hb
    ·cases hb
   obtain⟨u,w',m',φ',μ',h1,h2,h3,h4,h5⟩:=acts_buildSlice (P:=C.P) (dst:=dst) (ty:=ty) (pos:=pos) (after:=after) (gd:=gd) hs h hb';unfold Oper.wp;rw[h1];exact hn u w' m' φ' μ' h2 h3 h4 h5
  ·cases hx
 ·rename_i g xs ts;split at hx
  ·rename_i f as bs vs hg hvs;split at hx
   ·rename_i hcp;rw[Bool.and_eq_true] at hcp;split at hx
    ·rename_i rs st1 hc;split at hx
     ·rename_i hpr;cases hx;obtain⟨us,hargs,hrun⟩:=call_run (dst:=dst) (ty:=ty) (pos:=pos) (after:=after) (gd:=gd) (w:=w) (ts:=ts) h hg hvs hcp.1;have hg0:Hb.Good E w m ([]++μ):=hs.good;have hsit:Sit ⟨w,m,feetOf []⟩ m noPh [] [] w:=⟨hg0.start,rfl,fun _ _=>rfl⟩
      unfold Oper.wp;rw[hrun];refine(he f _ [] (.ret rs) st1 hc w m noPh [] us hsit (hargs.pure hcp.2)).mono fun en w' ⟨m',φ',μ',h1,h2,h3⟩=>?_
      have hg2:=hg0.back h2.good;have h4:=(endPur_R (r:=.ret rs) hpr h3).mono (Mem.le.refl _) (Le.none φ);obtain⟨us',rfl,q5⟩:=h4;exact hn _ w' m' φ μ h2.good.mem (Ext.refl _ _) ⟨hg2.drop (List.sublist_append_right _ _),hs.sto.mono h2.good.mem (Le.refl φ) (fun _ _ _=>rfl),hs.dom⟩ (retV_R q5)
     ·cases hx
    ·cases hx
   ·cases hx
  ·cases hx
 ·cases hx
theorem aget_same{d:Nat}{ρ:AEnv}:aget (aput (some d) v ρ) d=some v:=by simp[aput,aget]
structure Chn (ops:Array Oper) (s s':AS) (ρs:Nat→AEnv):Prop where
 e0:ρs 0=s.env
 e1:ρs ops.size=s'.env
 at_:∀(i:Nat) o,ops[i]?=some o→(∃v,ρs (i+1)=aput o.dst v (ρs i))∨ρs (i+1)=ρs i
theorem Run.chn(hr:Run C e ops Z ops.toList s s' tr ρs sts):Chn ops s s' ρs:=by
 refine⟨hr.e0,by simpa using hr.e1,fun i o ho=>?_⟩
 have hi:i<ops.size:=(Array.getElem?_eq_some_iff.1 ho).1;obtain⟨_,_,⟨_,v,_,h2⟩|⟨_,_,h2,_⟩⟩:=hr.at_ i o (tr[i]'(by rw[hr.len];simpa using hi)) (by simpa using ho) (List.getElem?_eq_getElem _)
 ·exact .inl ⟨v,h2⟩
 ·exact .inr h2
theorem Chn.fin{ops:Array Oper}{s s':AS}{ρs:Nat→AEnv}(hr:Chn ops s s' ρs){t:Nat}:∀{k j:Nat},j+k=ops.size→(∀i o,j≤i→ops[i]?=some o→o.dst≠some t)→aget s'.env t=aget (ρs j) t
 |0,j,hjk,_=>by
  have:ρs j=s'.env:=by rw[←hr.e1];simp[←hjk]
  rw[this]
 |k+1,j,hjk,hno=>by
  rw[Chn.fin hr (k:=k) (j:=j+1) (by omega) (fun i o hi=>hno i o (by omega))]
  have hj:j<ops.size:=by omega
  have ho:ops[j]?=some ops[j]:=Array.getElem?_eq_getElem hj;obtain⟨v,h2⟩|h2:=hr.at_ j _ ho
  rotate_left
  ·rw[h2]
  rw[h2];have hne:=hno j ops[j] (Nat.le_refl _) ho;cases hd:ops[j].dst with
  |none=>rfl
  |some d=>
   have hdt:d≠t:=fun e'=>hne (by rw[hd,e'])
   have hb:Nat.beq d t=false:=by
    cases hb:Nat.beq d t with
    |false=>rfl
    |true=>simp_all
   simp only[aput,aget,hb];exact aget_adel hdt
theorem Run.between{ops:Array Oper}{s s':AS}{tr:List Tr}{ρs:Nat→AEnv}{sts:Nat→Sto}{Z:Nat→Bool}(hr:Run C e ops Z ops.toList s s' tr ρs sts){α:Type}{f:Sto→α}:∀{k j:Nat},j+k≤ops.size→(∀i t,j≤i→i<j+k→tr[i]?=some t→(t.d=.a∨t.d=.al)→f t.b=f t.f)→f (sts (j+k))=f (sts j)
 |0,j,_,_=>rfl
 |k+1,j,hjk,hno=>by
  rw[←Run.between hr (f:=f) (k:=k) (j:=j) (by omega) (fun i t h1 h2=>hno i t h1 (by omega))]
  have hj:j+k<ops.size:=by omega
  have ho:ops.toList[j+k]?=some ops[j+k]:=by simp[hj]
  have htr:tr[j+k]?=some (tr[j+k]'(by rw[hr.len];simpa using hj)):=List.getElem?_eq_getElem _
  obtain⟨⟨h1,_⟩,h2,⟨_,v,h3,_⟩|⟨_,h3,_,_⟩⟩:=hr.at_ (j+k) _ _ ho htr
  rotate_left
  ·grind
  rw[←Nat.add_assoc,←h2,←h1]
  by_cases hd:(tr[j+k]'(by grind)).d=.a
  ·grind
  ·by_cases hd':(tr[j+k]'(by grind)).d=.al
   ·grind
   ·rw[h1,h2,drawOp_same h3 hd hd']
structure Ent where
 i:Nat
 b:Nat
 T:TypeId
 cs:List PV
 vs:List Value
def entsO(X:List Ent):Own:=X.map fun x=>bx x.b x.T x.vs
structure EntOk (C:Cfg) (ops:Array Oper) (tr:List Tr) (A:Array Bool) (a:Act) (x:Ent):Prop where
 op:∃o t,ops[x.i]?=some o∧o.op=.alloc x.T∧o.dst=some t∧soloAl ops t=true∧a.tmps[t]?=some (.pointer (some ⟨x.b,0,none⟩))
 zero:zeroP C.P x.T=some x.cs
 vals:∀(m:Mem) (φ:Ph),Rl m φ x.cs x.vs
 cel:x.cs.all cell=true
 did:A.getD x.i true=true
 new:∃t,tr[x.i]?=some t∧t.d=.al
structure DInv (C:Cfg) (D:List Deferred) (E:Entry) (n:Nat) (ops:Array Oper) (m0:Mem) (φ0:Ph) (st0:Sto) (s s':AS) (tr:List Tr) (sts:Nat→Sto) (A:Array Bool) (k:Nat) (m:Mem) (φ:Ph) (μ:Own) (X:List Ent) (a:Act) (w:World):Prop where
 mem:Mem.le m0 m
 ext:Ext st0 (sts k) φ0 φ
 good:Hb.Good E w m (μ++entsO X)
 sto:SR m φ 0 (sts k) μ
 dom:∀id,(sts k).length≤id→φ id=none
 size:A.size=ops.size
 tsz:a.tmps.size=n
 dfr:a.defers=D
 clo:∀(i:Nat) o,ops[i]?=some o→A.getD i true=true→∀x∈deps o,A.getD x true=true
 le:k≤ops.size
 done:∀(i:Nat) t,tr[i]?=some t→(t.d=.a∨t.d=.al)→i<k→A.getD i true=true
 left:∀(i:Nat) t,tr[i]?=some t→t.d=.a→k≤i→A.getD i true=false
 ents:∀x∈X,EntOk C ops tr A a x∧k≤x.i
 all:∀(i:Nat) t,tr[i]?=some t→t.d=.al→k≤i→A.getD i true=true→∃x∈X,x.i=i
 env0:∀t x,aget s.env t=some x→(∃(i:Nat) (o:Oper),ops[i]?=some o∧o.dst=some t∧A.getD i true=true)∨∃v,a.tmps[t]?=some v∧R m φ x v
 env:∀t x,aget s'.env t=some x→(∃(i:Nat) (o:Oper),ops[i]?=some o∧o.dst=some t∧A.getD i true=false)∨(∃y∈X,∃o,ops[y.i]?=some o∧o.dst=some t)∨∃v,a.tmps[t]?=some v∧R m φ x v
variable{X:List Ent}
theorem DInv.sit(h:DInv C D E n ops m0 φ0 st0 s s' tr sts A k m φ μ X a w):Sit ⟨w,m,feetOf μ⟩ m φ μ (sts k) w:=⟨h.good.start,h.sto,h.dom⟩
theorem put_get{v:Value}{t:Nat}(h:o.dst≠some t)(hu:a.tmps[t]?=some u):(a.put o.dst v).tmps[t]?=some u:=by
 cases hd':o.dst with
 |none=>exact hu
 |some d=>
  simp_all[Act.put,Array.getElem?_setIfInBounds]
theorem DInv.put{m':Mem}{φ':Ph}{μ':Own}{w':World}{x:PV}{v:Value}{X':List Ent}
  (hst:statOk2 ops=true) (hr:Chn ops s s' ρs) (h:DInv C D E n ops m0 φ0 st0 s s' tr sts A k m φ μ X a w) (ho:ops[j]?=some o) (hdst:dstOk n o.dst=true) (hj:j<ops.size) (hf:A.getD j true=false) (hdep:∀x∈deps o,A.getD x false=true)
  (hm:Mem.le m m') (hx:Ext (sts k) (sts k') φ φ') (hg:Hb.Good E w' m' (μ'++entsO X')) (hs:SR m' φ' 0 (sts k') μ') (hdom:∀id,(sts k').length≤id→φ' id=none) (hk:k'≤ops.size) (hdone:∀(i:Nat) t,tr[i]?=some t→(t.d=.a∨t.d=.al)→i<k'→i=j∨A.getD i true=true) (hleft:∀(i:Nat) t,tr[i]?=some t→t.d=.a→k'≤i→i≠j∧A.getD i true=false)
  (hX:∀y∈X,y∈X') (hX':∀y∈X',(y∈X∨(y.i=j∧EntOk C ops tr (A.setIfInBounds j true) (a.put o.dst v) y))∧k'≤y.i) (hall:∀t,tr[j]?=some t→t.d=.al→k'≤j→∃y∈X',y.i=j) (hkk:k≤k')
  (hval:ρs (j+1)=aput o.dst x (ρs j)) (hv:(∃y∈X',y.i=j)∨R m' φ' x v):DInv C D E n ops m0 φ0 st0 s s' tr sts (A.setIfInBounds j true) k' m' φ' μ' X' (a.put o.dst v) w':=by
 have hset:∀{i:Nat},A.getD i true=true→(A.setIfInBounds j true).getD i true=true:=fun e'=>by
  rw[getD_set h.size hj]
  grind
 refine⟨h.mem.trans hm,h.ext.trans hx,hg,hs,hdom,by simp[h.size],by rw[put_size];exact h.tsz,by rw[put_defers];exact h.dfr,Gw.clo_set h.clo h.size hj ho hdep,hk,fun i t ht ha hi=>?_,fun i t ht ha hi=>?_,fun y hy=>?_,fun i t ht ha hi hA=>?_,fun t y hy=>?_,fun t y hy=>?_⟩
 ·rw[getD_set h.size hj]
  grind
 ·obtain⟨h1,h2⟩:=hleft i t ht ha hi;rw[getD_set h.size hj,if_neg h1];exact h2
 ·obtain⟨hy1,hy2⟩:=hX' y hy;refine⟨?_,hy2⟩;rcases hy1 with hy1|⟨_,hy1⟩
  ·obtain⟨⟨⟨q,t,e1,e2,e3,e4,e5⟩,e6,e7,e8,e9,e10⟩,_⟩:=h.ents y hy1;refine⟨⟨q,t,e1,e2,e3,e4,put_get (fun e'=>?_) e5⟩,e6,e7,e8,hset e9,e10⟩
   have hne:y.i≠j:=fun e''=>by grind
   exact((stat2_one hst ho).2 y.i q t e1 e3).2 hne |>.2 e'
  ·exact hy1
 ·by_cases hij:i=j
  ·grind
  ·rw[getD_set h.size hj,if_neg hij] at hA;obtain⟨y,hy,rfl⟩:=h.all i t ht ha (by omega) hA
   grind
 ·by_cases hd:o.dst=some t
  ·exact .inl ⟨j,o,ho,hd,by simp_all⟩
  ·rcases h.env0 t y hy with⟨i,q,h1,h2,h3⟩|⟨u,h1,h2⟩
   ·grind
   ·exact .inr ⟨u,put_get hd h1,h2.mono hm hx.le⟩
 ·by_cases hd:o.dst=some t
  ·rcases hv with⟨y0,hy0,hyj⟩|hv
   ·grind
   ·refine .inr (.inr ⟨v,?_,?_⟩)
    ·rw[hd] at hdst⊢;have:t<a.tmps.size:=by rw[h.tsz];simpa[dstOk] using hdst
     simp[Act.put,Array.getElem?_setIfInBounds,this]
    ·have:=hr.fin (t:=t) (k:=ops.size-(j+1)) (j:=j+1) (by omega) (fun i q hi hq e'=>by
      have:=((stat2_one hst ho).2 i q t hq e').2 (by omega)
      exact this.2 hd)
     simp_all[aget_same]
  ·rcases h.env t y hy with⟨i,q,h1,h2,h3⟩|⟨z,hz,q,h1,h2⟩|⟨u,h1,h2⟩
   ·refine .inl ⟨i,q,h1,h2,?_⟩;rw[getD_set h.size hj,if_neg (fun e'=>?_)]
    ·exact h3
    grind
   ·grind
   ·exact .inr (.inr ⟨u,put_get hd h1,h2.mono hm hx.le⟩)
theorem DInv.sees
  (hst:statOk2 ops=true) (hr:Chn ops s s' ρs) (h:DInv C D E n ops m0 φ0 st0 s s' tr sts A k m φ μ X a w) (ho:ops[j]?=some o) (hj:j<ops.size) (hdep:∀x∈deps o,A.getD x false=true)
  (hf:A.getD j true=false) (hX:∀y∈X,∀q t,ops[y.i]?=some q→q.dst=some t→t∉looks ops o):EnvR m φ (aonly (looks ops o) (ρs j)) a:=by
 intro t x hx;obtain⟨h1,h2⟩:=aonly_get hx;have hs:=stat2_one hst ho;have hcl:=clos_down hst h.clo;have hclt:=clos_lt hst
 by_cases hl:∃(k:Nat) (q:Oper),ops[k]?=some q∧q.dst=some t∧j∈(clos [] ops.toList).getD k []
 ·-- it is read ahead of what is written to it
  obtain⟨k1,q,hk,hq,hjk⟩:=hl;have hjlt:=hclt k1 q hk j hjk;have hini:∀i,i≤j→aget (ρs i) t=aget s.env t:=fun i=>by
   induction i with
   |zero=>intro _;rw[hr.e0]
   |succ i ih=>
    intro hi;have hio:i<ops.size:=by omega
    obtain⟨v,h3⟩|h3:=hr.at_ i ops[i] (Array.getElem?_eq_getElem hio)
    rotate_left
    ·grind
    rw[h3,←ih (by omega)]
    have hne:ops[i].dst≠some t:=((stat2_one hst (Array.getElem?_eq_getElem hio)).2 k1 q t hk hq).2 (by omega) |>.2
    cases hd':ops[i].dst with
    |none=>rfl
    |some d=>
     have hdt:d≠t:=fun e'=>hne (by rw[hd',e'])
     have hb:Nat.beq d t=false:=by
      cases hb:Nat.beq d t with
      |false=>rfl
      |true=>simp_all
     simp only[aput,aget,hb];exact aget_adel hdt
  rw[hini j (Nat.le_refl j)] at h1;rcases h.env0 t x h1 with⟨i,q',e1,e2,e3⟩|hv
  ·exfalso;have hik:i=k1:=by
    rcases Nat.decEq i k1 with hne|he
    ·exact absurd e2 (((stat2_one hst e1).2 k1 q t hk hq).2 (fun e'=>hne e'.symm)).2
    ·exact he
   subst hik;rw[hk] at e1;cases e1;have:=hcl i q hk (h.clo i q hk e3) j hjk
   grind
  ·exact hv
 have hdeps:∀(i:Nat) (q:Oper),ops[i]?=some q→q.dst=some t→i≠j→i∈deps o:=fun i q e1 e2 hij=>by
  grind
 have:=hr.fin (t:=t) (k:=ops.size-j) (j:=j) (by omega) (fun i q hi hq e'=>by
  grind)
 rw[←this] at h1;rcases h.env t x h1 with⟨i,q,e1,e2,e3⟩|⟨y,hy,q,e1,e2⟩|hv
 ·grind
 ·grind
 ·exact hv
theorem DInv.step
  (hst:statOk2 ops=true) (hr:Run C e ops Z ops.toList s s' tr ρs sts) (h:DInv C D E n ops m0 φ0 st0 s s' tr sts A k m φ μ X a w) (hk:k<ops.size) (hno:∀t,tr[k]?=some t→t.d≠.a) (hal:∀t,tr[k]?=some t→t.d=.al→A.getD k true=true) :
  ∃φ' μ' X',DInv C D E n ops m0 φ0 st0 s s' tr sts A (k+1) m φ' μ' X' a w:=by
 have htr:tr[k]?=some (tr[k]'(by rw[hr.len];simpa using hk)):=List.getElem?_eq_getElem _
 generalize tr[k]'(by grind)=T at htr
 have ho:ops[k]?=some ops[k]:=Array.getElem?_eq_getElem hk;obtain⟨⟨hTb,_⟩,hTf,hat⟩:=hr.at_ k ops[k] T (by simp[hk]) htr
 have hdone:∀(i:Nat) t,tr[i]?=some t→(t.d=.a∨t.d=.al)→i<k+1→A.getD i true=true:=fun i t ht ha hi=>by
  by_cases hik:i=k
  ·grind
  ·exact h.done i t ht ha (by omega)
 by_cases hd:T.d=.al
 ·obtain⟨_,v,hdo,hput⟩|⟨_,_,_,hno'⟩:=hat
  rotate_left
  ·exact absurd hd hno'
  rw[hd] at hdo;obtain⟨T0,t,cs,hop,hdst,hso,hz,rfl,hst1,hg⟩:=drawOp_al hdo;obtain⟨x,hx,rfl⟩:=h.all k T htr hd (Nat.le_refl k) (hal T htr hd);obtain⟨⟨⟨q,t',e1,e2,e3,e4,e5⟩,e6,e7,e8,e9,e10⟩,_⟩:=h.ents x hx;rw[ho] at e1;cases e1;rw[hop] at e2;cases e2;rw[hdst] at e3;cases e3;rw[hz] at e6;cases e6;obtain⟨X1,X2,hX⟩:=List.append_of_mem hx;have hdomk:=h.dom (sts x.i).length (Nat.le_refl _);have hle:Le φ (more φ (sts x.i).length (.blk x.b)):=le_more hdomk;have hlt1:∀id,id<(sts x.i).length→more φ (sts x.i).length (.blk x.b) id=φ id:=fun id hid=>more_other (by omega)
  refine⟨more φ (sts x.i).length (.blk x.b),μ++[bx x.b x.T x.vs],X.filter (fun y=>decide (y.i≠x.i)),h.mem,?_,?_,?_,fun id hid=>?_,h.size,h.tsz,h.dfr,h.clo,hk,hdone,fun i t ht ha hi=>h.left i t ht ha (by omega),fun y hy=>?_,fun i t ht ha hi hA=>?_,fun t' y hy=>(h.env0 t' y hy).imp id fun⟨u,h1,h2⟩=>⟨u,h1,h2.mono (Mem.le.refl m) hle⟩,fun t' y hy=>?_⟩
  ·rw[hst1];refine h.ext.trans ⟨hle,by simp,fun id hid=>?_⟩
   grind
  ·have hsub:(X1++X2).filter (fun y=>decide (y.i≠x.i))=X.filter (fun y=>decide (y.i≠x.i)):=by rw[hX];simp
   have hg1:Hb.Good E w m ((μ++[bx x.b x.T x.vs])++entsO (X1++X2)):=h.good.perm (by
    rw[hX];simp only[entsO,List.map_append,List.map_cons,List.append_assoc];exact List.Perm.append_left μ (by simp))
   refine hg1.drop (List.Sublist.append (List.Sublist.refl _) ?_);rw[←hsub];exact List.Sublist.map _ List.filter_sublist
  ·rw[hst1];refine SR.snoc (h.sto.mono (Mem.le.refl m) hle fun id _ hid=>hlt1 id (by omega)) ?_
   rw[Nat.zero_add];exact⟨x.b,x.vs,more_self _ _ _,rfl,e7 m _,e8⟩
  ·rw[hst1] at hid;simp only[List.length_append,List.length_cons,List.length_nil] at hid;rw[more_other (by omega)]
   exact h.dom id (by omega)
  ·obtain⟨h1,h2⟩:=List.mem_filter.1 hy;obtain⟨h3,h4⟩:=h.ents y h1
   grind
  ·obtain⟨y,hy,rfl⟩:=h.all i t ht ha (by omega) hA
   grind
  ·rcases h.env t' y hy with h1|⟨z,hz',q,h1,h2⟩|⟨u,h1,h2⟩
   ·exact .inl h1
   ·by_cases hzi:z.i=x.i
    ·rw[hzi,ho] at h1;cases h1;rw[hdst] at h2;cases h2;refine .inr (.inr ⟨_,e5,?_⟩);have:=hr.chn.fin (t:=t) (k:=ops.size-(x.i+1)) (j:=x.i+1) (by omega) (fun i q hi hq e'=>by
      have:=((stat2_one hst ho).2 i q t hq e').2 (by omega)
      exact this.2 hdst)
     rw[this,hput,hdst,aget_same] at hy;cases hy;exact .bp (more_self _ _ _)
    grind
   ·exact .inr (.inr ⟨u,h1,h2.mono (Mem.le.refl m) hle⟩)
 ·have hsame:sts (k+1)=sts k:=by
   obtain⟨_,v,hdo,_⟩|⟨_,h3,_,_⟩:=hat
   ·exact drawOp_same hdo (hno T htr) hd
   ·exact h3
  refine⟨φ,μ,X,h.mem,by rw[hsame];exact h.ext,h.good,by rw[hsame];exact h.sto,by rw[hsame];exact h.dom,h.size,h.tsz,h.dfr,h.clo,hk,hdone,fun i t ht ha hi=>h.left i t ht ha (by omega),fun y hy=>?_,fun i t ht ha hi hA=>h.all i t ht ha (by omega) hA,h.env0,h.env⟩
  obtain⟨h3,h4⟩:=h.ents y hy;refine⟨h3,?_⟩;rcases Nat.lt_or_ge k y.i with h5|h5
  ·exact h5
  ·exfalso;have hki:y.i=k:=by omega
   obtain⟨t,ht,hta⟩:=h3.new
   grind
theorem DInv.upto{Z:Nat→Bool}{ops:Array Oper}{m0:Mem}{φ0:Ph}{st0:Sto}{s s':AS}{tr:List Tr}{ρs:Nat→AEnv}{sts:Nat→Sto}{A:Array Bool}
  (hst:statOk2 ops=true) (hr:Run C e ops Z ops.toList s s' tr ρs sts):∀{d k:Nat}{φ:Ph}{μ:Own}{X:List Ent},DInv C D E n ops m0 φ0 st0 s s' tr sts A k m φ μ X a w→k+d≤ops.size→(∀(i:Nat) t,k≤i→i<k+d→tr[i]?=some t→t.d≠.a∧(t.d=.al→A.getD i true=true)) →
  ∃φ' μ' X',DInv C D E n ops m0 φ0 st0 s s' tr sts A (k+d) m φ' μ' X' a w
 |0,k,φ,μ,X,h,_,_=>⟨φ,μ,X,h⟩
 |d+1,k,φ,μ,X,h,hle,hno=>by
  obtain⟨φ',μ',X',h1⟩:=h.step hst hr (by omega) (fun t ht=>(hno k t (Nat.le_refl k) (by omega) ht).1) (fun t ht=>(hno k t (Nat.le_refl k) (by omega) ht).2)
  have:=DInv.upto hst hr (d:=d) h1 (by omega) (fun i t hi hi' ht=>hno i t (by omega) (by omega) ht)
  grind
theorem drawOk_pair(h:drawOk ops tr=true):statOk2 ops=true∧∀(i j:Nat) x y,tr[i]?=some x→tr[j]?=some y→pairOk (clos [] ops.toList) i j x y=true:=by
 unfold drawOk at h;simp only[Bool.and_eq_true] at h;refine⟨h.1,fun i j x y hx hy=>?_⟩
 have h1:=allFrom_get h.2 hx;have h2:=allFrom_get h1 hy;simpa using h2
theorem draw_main(he:CallOk C.P e.call)(hr:Run C e ops Z ops.toList s s' tr ρs sts)(hst:statOk2 ops=true)(hpair:∀(i j:Nat) x y,tr[i]?=some x→tr[j]?=some y→pairOk (clos [] ops.toList) i j x y=true)
  (hdsts:∀(j:Nat) o,ops[j]?=some o→dstOk n o.dst=true) {Qf:Exit→Act→World→Prop}(hfin:∀A k m φ μ X a w,DInv C D E n ops m0 φ0 st0 s s' tr sts A k m φ μ X a w→(∀i,Z i=true→i<ops.size→A.getD i true=false)→(∀i,i<ops.size→A.getD i true=true)→Qf .normal a w)
  (hpan:∀j o t,Z j=true→ops[j]?=some o→tr[j]?=some t→(∃q,q<ops.size∧Z q=true∧q∈(clos [] ops.toList).getD j [])∨(t.d=.a∧∃v st,panOp C e ops o (aonly (looks ops o) (ρs j)) (sts j)=some (v,st) ∧
   ∀A m φ μ X a w m' φ' μ' c u w',DInv C D E n ops m0 φ0 st0 s s' tr sts A j m φ μ X a w→Mem.le m m'→Ext (sts j) st φ φ'→Sit ⟨w,m,feetOf μ⟩ m' φ' μ' st w'→R m' φ' v u→PanL u c→(∀i,Z i=true→i<ops.size→A.getD i true=false)→Qf (.panic c) a w')) :
  ∀fuel A k m φ μ X a w,DInv C D E n ops m0 φ0 st0 s s' tr sts A k m φ μ X a w→(∀i,Z i=true→i<ops.size→A.getD i true=false)→cnt ops A≤fuel→wpAny C.P .any ops Qf fuel A a w:=by
 intro fuel
 induction fuel with
 |zero=>
  intro A k m φ μ X a w hI hZA hc;have hA:∀i,i<ops.size→A.getD i true=true:=fun i hi=>by
   simp_all[cnt,List.countP_eq_zero]
  refine⟨?_,hfin A k m φ μ X a w hI hZA hA⟩;cases hrd:Region.ready .any ops A with
  |nil=>rfl
  |cons i l=>
   obtain⟨h1,h2,_⟩:=Gw.mem_ready (ops:=ops) (A:=A) (i:=i) (by grind)
   grind
 |succ fuel ih=>
  intro A k m φ μ X a w hI hZA hc;refine⟨fun hnil=>hfin A k m φ μ X a w hI hZA (fun i hi=>?_),fun j hj=>?_⟩
  ·cases hb:A.getD i true with
   |true=>rfl
   |false=>exact absurd hnil (ready_ne' hst hI.size hi hb)
  obtain⟨hj1,hj2,o,ho,hdep⟩:=Gw.mem_ready hj;have hc':=cnt_set hI.size hj1 hj2 hc;have hol:ops.toList[j]?=some o:=by simpa using ho
  have htr:tr[j]?=some (tr[j]'(by rw[hr.len];simpa using hj1)):=List.getElem?_eq_getElem _
  generalize tr[j]'(by grind)=T at htr
  obtain⟨hTb,hTf,hat⟩:=hr.at_ j o T hol htr;have hup:∀x∈deps o,A.getD x true=true:=fun x hx=>Gw.getD_up (hdep x hx)
  have hcl:=clos_down hst hI.clo;have hlt:=clos_lt hst;have hZj:Z j=true→T.d=.a∧∃v st,panOp C e ops o (aonly (looks ops o) (ρs j)) (sts j)=some (v,st) ∧
   ∀A m φ μ X a w m' φ' μ' c u w',DInv C D E n ops m0 φ0 st0 s s' tr sts A j m φ μ X a w→Mem.le m m'→Ext (sts j) st φ φ'→Sit ⟨w,m,feetOf μ⟩ m' φ' μ' st w'→R m' φ' v u→PanL u c→(∀i,Z i=true→i<ops.size→A.getD i true=false)→Qf (.panic c) a w':=fun hz=>by
   rcases hpan j o T hz ho htr with⟨q,hq1,hq2,hq3⟩|h
   ·grind
   ·exact h
  have hZA':Z j=false→∀i,Z i=true→i<ops.size→(A.setIfInBounds j true).getD i true=false:=fun hz i hi hlt=>by
   rw[getD_set hI.size hj1,if_neg (fun e'=>by grind)]
   exact hZA i hi hlt
  by_cases hTa:T.d=.a
  ·-- it acts: all that acts ahead of it has been carried out
   have hkj:k≤j:=by
    rcases Nat.lt_or_ge j k with h4|h4
    ·have:=hI.done j T htr (.inl hTa) h4
     grind
    ·exact h4
   have hbef:∀(i:Nat) t,tr[i]?=some t→(t.d=.a∨t.d=.al)→i<j→A.getD i true=true:=fun i t ht ha hi=>by
    have hp:=hpair i j t T ht htr;have hord:((clos [] ops.toList).getD j []).elem i=true∨((clos [] ops.toList).getD i []).elem j=true→A.getD i true=true:=fun hp=>by
     rcases hp with hp|hp
     ·exact hcl j o ho hup i (by simpa using hp)
     grind
    unfold pairOk at hp;rw[hTa] at hp;rcases ha with ha|ha
    ·rw[ha] at hp;simp only[Bool.or_eq_true] at hp;rcases hp with hp|hp
     ·have:=Nat.eq_of_beq_eq_true hp;omega
     ·exact hord hp
    ·rw[ha] at hp;simp only[Bool.or_eq_true] at hp
     grind [Nat.blt_eq]
   obtain⟨φ1,μ1,X1,hI1⟩:=hI.upto hst hr (d:=j-k) (by omega) (fun i t h1 h2 ht=>⟨fun ha=>(by
    have h6:=hbef i t ht (.inl ha) (by omega)
    rw[hI.left i t ht ha h1] at h6;cases h6),fun ha=>hbef i t ht (.inr ha) (by omega)⟩)
   rw[show k+(j-k)=j by omega] at hI1
   have hsee:=hI1.sees hst hr.chn ho hj1 hdep hj2 (fun y hy q t e1 e2 ht=>by
    obtain⟨h3,h4⟩:=hI1.ents y hy;have h5:=(stat2_one hst ho).2 y.i q t e1 e2
    by_cases hyj:y.i=j
    ·exact h5.1 hyj ht
    ·rcases(h5.2 hyj).1 ht with h6|h6
     ·have:=(stat2_one hst ho).1 _ h6;omega
     ·have:=hcl y.i q e1 (hI1.clo y.i q e1 h3.did) j h6
      grind)
   obtain⟨hzj,v,hdo,hput⟩|⟨hzj,_⟩:=hat
   rotate_left
   ·obtain⟨_,v,st,hp,hq⟩:=hZj hzj;unfold wpOp;rw[ho];show if _ then _ else _
    unfold panOp at hp;split at hp
    ·rename_i hg;rw[if_pos (guard_ok hsee hg)];refine .inl ?_;split at hp
     ·rename_i g xs ts hop;split at hp
      ·rename_i v1 st1 hc;cases hp;refine oper_ok he hI1.sit hsee (r:=.pan v st) (by rw[hop];exact hc) (fun x1 st2 u w' m' φ' μ' hr'=>by cases hr') (fun st2 w' m' φ' μ' hr'=>by cases hr') (fun x1 st2 u c w' m' φ' μ' hr' hcc q1 q2 q3 q4=>?_)
       grind
      ·cases hp
     ·cases hp
    ·cases hp
   have moved:∀u w' m' φ' μ',Mem.le m m'→Ext (sts j) (sts (j+1)) φ1 φ'→Sit ⟨w,m,feetOf μ1⟩ m' φ' μ' (sts (j+1)) w'→R m' φ' v u→wpAny C.P .any ops Qf fuel (A.setIfInBounds j true) (a.put o.dst u) w':=fun u w' m' φ' μ' q1 q2 q3 q4=>
    ih _ (j+1) m' φ' μ' X1 _ _ (hI1.put hst hr.chn ho (hdsts j o ho) hj1 hj2 hdep q1 q2 (hI1.good.back q3.good) q3.sto q3.dom hj1 (fun i t ht ha hi=>by
     grind) (fun i t ht ha hi=>⟨by omega,hI1.left i t ht ha (by omega)⟩) (fun y hy=>hy) (fun y hy=>⟨.inl hy,by
      obtain⟨h3,h4⟩:=hI1.ents y hy;rcases Nat.lt_or_ge j y.i with h5|h5
      ·exact h5
      ·exfalso;obtain⟨t,ht,hta⟩:=h3.new
       grind⟩) (fun t ht ha hi=>by omega) (by omega) hput (.inr q4)) (hZA' hzj) hc'
   unfold wpOp;rw[ho];show if _ then _ else _
   unfold drawOp at hdo;split at hdo
   ·grind
   ·rename_i hg;rw[if_pos (guard_ok hsee hg)];refine .inl ?_;split at hdo
    ·grind
    ·rename_i hP;split at hdo
     ·grind
     ·rename_i hK;split at hdo
      ·grind
      ·have hoper:∀r,aS C e (aonly (looks ops o) (ρs j)) (sts j) o.op=some r→aoper C e (aonly (looks ops o) (ρs j)) (sts j) o.op=some r:=fun r hr'=>by
        unfold aoper
        grind
       split at hdo
       ·rename_i v1 st1 hv1;simp only[Option.some.injEq,Prod.mk.injEq] at hdo;obtain⟨rfl,rfl,h3⟩:=hdo;refine oper_ok he hI1.sit hsee (r:=.val v1 (sts (j+1))) (hoper _ hv1) (fun x1 st2 u w' m' φ' μ' hr' q1 q2 q3 q4=>?_) (fun st2 w' m' φ' μ' hr'=>by cases hr') (fun x1 st2 u c w' m' φ' μ' hr'=>by cases hr')
        grind
       ·rename_i st1 hv1;simp only[Option.some.injEq,Prod.mk.injEq] at hdo;obtain⟨rfl,rfl,h3⟩:=hdo;refine oper_ok he hI1.sit hsee (r:=.unit (sts (j+1))) (hoper _ hv1) (fun x1 st2 u w' m' φ' μ' hr'=>by cases hr') (fun st2 w' m' φ' μ' hr' q1 q2 q3=>?_) (fun x1 st2 u c w' m' φ' μ' hr'=>by cases hr')
        cases hr';exact moved undef w' m' φ' μ' q1 q2 q3 undef_R
       ·cases hdo
   ·cases hdo
  ·-- it does not act
   obtain⟨hzj,v,hdo,hput⟩|⟨hzj,_⟩:=hat
   rotate_left
   ·grind
   have hsee:=hI.sees hst hr.chn ho hj1 hdep hj2 (fun y hy q t e1 e2 ht=>by
    obtain⟨⟨⟨q',t',f1,f2,f3,f4,f5⟩,_⟩,_⟩:=hI.ents y hy;rw[e1] at f1;cases f1;rw[e2] at f3;cases f3;have:=List.all_eq_true.1 f4 o (by grind)
    rw[Bool.or_eq_true] at this;rcases this with h5|h5
    ·grind
    ·split at h5
     ·rename_i T1 x1 y1 hop hgd;refine hTa ?_;unfold drawOp at hdo;rw[hop,hgd] at hdo;simp only[guardP,aP,aK,pureAct] at hdo;split at hdo
      ·rename_i v1 st1 hv1;simp only[aS,sStore] at hv1;split at hv1
       ·split at hv1
        ·obtain⟨st2,_,h7⟩:=Option.map_eq_some_iff.1 hv1;cases h7
        ·cases hv1
       ·cases hv1
      ·grind
      ·cases hdo
     ·cases h5)
   -- nothing of the store is changed
   have still:T.d≠.al→∀u w' m' φ' μ',Mem.le m m'→Ext (sts k) (sts k) φ φ'→Sit ⟨w,m,feetOf μ⟩ m' φ' μ' (sts k) w'→R m' φ' v u→wpAny C.P .any ops Qf fuel (A.setIfInBounds j true) (a.put o.dst u) w':=fun hd u w' m' φ' μ' q1 q2 q3 q4=>
    ih _ k m' φ' μ' X _ _ (hI.put hst hr.chn ho (hdsts j o ho) hj1 hj2 hdep q1 q2 (hI.good.back q3.good) q3.sto q3.dom hI.le (fun i t ht ha hi=>.inr (hI.done i t ht ha hi)) (fun i t ht ha hi=>⟨fun e'=>by grind,hI.left i t ht ha hi⟩) (fun y hy=>hy) (fun y hy=>⟨.inl hy,(hI.ents y hy).2⟩) (fun t ht ha _=>by
     grind) (Nat.le_refl k) hput (.inr q4)) (hZA' hzj) hc'
   unfold wpOp;rw[ho];show if _ then _ else _
   by_cases hTl:T.d=.al
   ·-- a new variable
    rw[hTl] at hdo;obtain⟨T0,t,cs,hop,hdst,hso,hz,rfl,hst1,hg⟩:=drawOp_al hdo;rw[if_pos (guard_ok hsee hg)];refine .inl ?_;have hkj:k≤j:=by
     rcases Nat.lt_or_ge j k with h4|h4
     ·have:=hI.done j T htr (.inr hTl) h4
      grind
     ·exact h4
    have hz0:=hz;unfold zeroP at hz;split at hz
    ·rename_i z hzz;have hrun:(execOp a.eval o).run C.P w=.ok (.value (.pointer (some ⟨w.heap.size,0,none⟩))) { w with heap:=w.heap.push (.cells z.cells T0 (0,0)) }:=by
      cases hi:C.P.info? T0 with
      |none=>simp[tz,hi] at hzz
      |some i=>
       simp[tz,hi] at hzz;simp[execOp,hop,Instr.alloc,zeroValue,typeInfo,hi,hzz,run_newVar]
     unfold Oper.wp;rw[hrun];have hg1:Hb.Good E { w with heap:=w.heap.push (.cells z.cells T0 (0,0)) } m (μ++entsO (⟨j,w.heap.size,T0,cs,z.cells.toList⟩::X)):=(hI.good.new (.cells z.cells T0 (0,0))).perm (by
      simp only[entsO,List.map_cons];simpa using List.perm_middle.symm)
     have hdt:t<a.tmps.size:=by
      have:=hdsts j o ho;rw[hdst] at this;rw[hI.tsz];simpa[dstOk] using this
     refine ih _ k m φ μ (⟨j,w.heap.size,T0,cs,z.cells.toList⟩::X) _ _ (hI.put hst hr.chn ho (hdsts j o ho) hj1 hj2 hdep (Mem.le.refl m) (Ext.refl _ _) hg1 hI.sto hI.dom hI.le (fun i t ht ha hi=>.inr (hI.done i t ht ha hi)) (fun i t ht ha hi=>⟨fun e'=>by grind,hI.left i t ht ha hi⟩) (fun y hy=>List.mem_cons_of_mem _ hy) (fun y hy=>?_) (fun t ht ha _=>⟨_,List.mem_cons_self,rfl⟩) (Nat.le_refl k) hput (.inl ⟨_,List.mem_cons_self,rfl⟩)) (hZA' hzj) hc'
     rcases List.mem_cons.1 hy with rfl|hy
     ·refine⟨.inr ⟨rfl,⟨o,t,ho,hop,hdst,hso,?_⟩,hz0,fun m φ=>(ofCells_R hz).1,(ofCells_R (m:=m) (φ:=φ) hz).2,?_,T,htr,hTl⟩,hkj⟩
      ·grind [Act.put]
      ·rw[getD_set hI.size hj1,if_pos rfl]
     ·exact⟨.inl hy,(hI.ents y hy).2⟩
    ·cases hz
   unfold drawOp at hdo;split at hdo
   ·rename_i hg;rw[if_neg (by rw[guard_ok hsee hg];simp)]
    simp only[Option.some.injEq,Prod.mk.injEq] at hdo;obtain⟨rfl,h2,h3⟩:=hdo;exact still hTl undef w m φ μ (Mem.le.refl m) (Ext.refl _ _) hI.sit undef_R
   ·rename_i hg;rw[if_pos (guard_ok hsee hg)];refine .inl ?_;have does:Does C.P w a m φ o v→Oper.wp C.P o a w (wpAny C.P .any ops Qf fuel (A.setIfInBounds j true)) Qf:=fun⟨u,h1,h2⟩=>by
     unfold Oper.wp;rw[h1];exact still hTl u w m φ μ (Mem.le.refl m) (Ext.refl _ _) hI.sit h2
    split at hdo
    ·rename_i v1 hv1;simp only[Option.some.injEq,Prod.mk.injEq] at hdo;obtain⟨rfl,h2,h3⟩:=hdo;exact does (does_P (Am.Good.memW hI.good) hsee hv1)
    ·rename_i hP;split at hdo
     ·rename_i v1 hv1;split at hdo
      ·rename_i id1 hid;simp only[Option.some.injEq,Prod.mk.injEq] at hdo;obtain⟨rfl,h2,h3⟩:=hdo;have fresh:∀(i:Nat) t,tr[i]?=some t→t.d=.al→t.b[id1]?=t.f[id1]?:=fun i t ht ha=>by
        have hp:=hpair i j t T ht htr;unfold pairOk at hp;rw[ha,←h3] at hp;have hp:Nat.blt id1 t.b.length=true:=hp;rw[Nat.blt_eq] at hp;have hi:i<ops.size:=by
         have:=(List.getElem?_eq_some_iff.1 ht).1;rw[hr.len] at this;simpa using this
        obtain⟨⟨g1,_⟩,g2,⟨_,g3,g4,_⟩|⟨_,_,_,g4⟩⟩:=hr.at_ i ops[i] t (by simp[hi]) ht
        rotate_left
        ·exact absurd ha g4
        rw[ha] at g4;obtain⟨_,_,_,_,_,_,_,_,g5,_⟩:=drawOp_al g4
        grind
       have heq:(sts k)[id1]?=(sts j)[id1]?:=by
        rcases Nat.le_total k j with hkj|hkj
        ·have:=hr.between (f:=fun st=>st[id1]?) (k:=j-k) (j:=k) (by omega) (fun i t h4 h5 ht ha=>by
          rcases ha with ha|ha
          rotate_left
          ·exact fresh i t ht ha
          have hp:=hpair i j t T ht htr;unfold pairOk at hp;rw[ha,←h3] at hp;simp only[Bool.or_eq_true] at hp;rcases hp with(hp|hp)|hp
          ·have:=hcl j o ho hup i (by simpa using hp)
           rw[hI.left i t ht ha h4] at this;cases this
          ·have hi:i<ops.size:=by omega
           grind
          ·rcases hp with hp|hp
           ·exact hr.off ht ha hp
           ·exact eqAt_eq hp)
         rw[show k+(j-k)=j by omega] at this
         exact this.symm
        ·have:=hr.between (f:=fun st=>st[id1]?) (k:=k-j) (j:=j) (by have:=hI.le;omega) (fun i t h4 h5 ht ha=>by
          rcases ha with ha|ha
          rotate_left
          ·exact fresh i t ht ha
          have hp:=hpair i j t T ht htr;unfold pairOk at hp;rw[ha,←h3] at hp;simp only[Bool.or_eq_true] at hp;rcases hp with(hp|hp)|hp
          ·grind
          ·have hi:i<ops.size:=by have:=hI.le;omega
           have hoi:ops[i]?=some ops[i]:=Array.getElem?_eq_getElem hi;have hAi:=hI.done i t ht (.inl ha) (by omega)
           have:=hcl i _ hoi (hI.clo i _ hoi hAi) j (by simpa using hp)
           grind
          ·rcases hp with hp|hp
           ·exact hr.off ht ha hp
           ·exact eqAt_eq hp)
         rw[show j+(k-j)=k by omega] at this
         exact this
       exact does (does_K hI.sit hsee (aK_at hv1 hid heq))
      ·cases hdo
     ·rename_i hK;split at hdo
      ·rename_i v1 hv1;simp only[Option.some.injEq,Prod.mk.injEq] at hdo;obtain⟨rfl,h2,h3⟩:=hdo;exact pureAct_ok he hI.sit hsee hv1 (fun u w' m' φ' μ' q1 q2 q3 q4=>still hTl u w' m' φ' μ' q1 q2 q3 q4)
      ·split at hdo
       ·simp only[Option.some.injEq,Prod.mk.injEq] at hdo;rcases actK_or ops o with e'|e'
        ·grind
        grind
       ·grind
       ·cases hdo
   ·cases hdo
theorem eqPV2_eq:∀(n:Nat) (x y:PV),eqPV2 n x y=true→x=y
 |0,_,_,h=>by simp[eqPV2] at h
 |n+1,x,y,h=>by
  simp only[eqPV2] at h;split at h
  ·rw[eqV_eq h]
  ·rw[eqL_eq (eqPV2_eq n) h]
  ·rw[eqL_eq (eqPV2_eq n) h]
  ·rw[eqL_eq (eqPV2_eq n) h]
  ·rw[eqL_eq (eqPV2_eq n) h]
  ·simp only[Bool.and_eq_true,beq_iff_eq] at h;obtain⟨⟨rfl,h2⟩,h3⟩:=h;rw[Nat.eq_of_beq_eq_true h2,eqL_eq (eqPV2_eq n) h3]
  ·simp_all
  ·simp_all
  ·simp_all
  ·cases h
theorem eqSO2_eq(x y:SO)(h:eqSO2 x y=true):x=y:=by
 unfold eqSO2 at h;split at h
 ·simp only[Bool.and_eq_true] at h;rw[Nat.eq_of_beq_eq_true h.1,eqL_eq (eqPV2_eq 400) h.2]
 ·rw[eqL_eq (eqPV2_eq 400) h]
 ·rfl
 ·simp only[Bool.and_eq_true,beq_iff_eq] at h;obtain⟨⟨⟨rfl,h2⟩,h3⟩,h4⟩:=h;rw[Nat.eq_of_beq_eq_true h2,Nat.eq_of_beq_eq_true h3,eqL_eq (eqPV2_eq 400) h4]
 ·cases h
theorem addL_mem{L':List (List Nat×Sto)}(h:addL K st L=some L'):(∀y∈L,y∈L')∧(K,st)∈L':=by
 unfold addL at h;split at h
 ·rename_i x hx;split at h
  ·rename_i he;cases h;have h1:=List.mem_of_find?_eq_some hx;have h2:x.1=K:=by simpa using List.find?_some hx
   have:x=(K,st):=Prod.ext h2 (eqL_eq eqSO2_eq he);exact⟨fun y hy=>hy,this▸h1⟩
  ·cases h
 ·cases h;exact⟨fun y hy=>List.mem_cons_of_mem _ hy,List.mem_cons_self⟩
theorem nextJ_mem{ops:Array Oper}{cl:List (List Nat)}{W:List Row4}{K:List Nat}:∀{js:List Nat}{L L':List (List Nat×Sto)},nextJ C e ops cl W K st js L=some L'→(∀y∈L,y∈L')∧∀j∈js,(isAct W j&&(!K.elem j&&rdyK cl W K j))=true→∀o ρ v d,W[j]?=some (o,ρ,v,d)→∃st' d',drawOp C e ops o ρ st=some (v,st',d')∧(insK ops.size K j,st')∈L'
 |[],L,L',h=>by
  cases h;exact⟨fun y hy=>hy,fun j hj=>absurd hj List.not_mem_nil⟩
 |i::r,L,L',h=>by
  unfold nextJ at h;split at h
  ·rename_i o ρ v d hb hw;split at h
   ·rename_i v' st' d' hd;split at h
    ·rename_i he;split at h
     ·rename_i L1 h1;obtain⟨a1,a2⟩:=addL_mem h1;obtain⟨b1,b2⟩:=nextJ_mem h;obtain rfl:=eqPV2_eq _ _ _ he;refine⟨fun y hy=>b1 y (a1 y hy),fun j hj hc o2 ρ2 v2 d2 hw2=>?_⟩
      rcases List.mem_cons.1 hj with rfl|hj
      ·rw[hw] at hw2;cases hw2;exact⟨st',d',hd,b1 _ a2⟩
      ·exact b2 j hj hc o2 ρ2 v2 d2 hw2
     ·cases h
    ·cases h
   ·cases h
  ·cases h
  ·rename_i hb;obtain⟨b1,b2⟩:=nextJ_mem h;refine⟨b1,fun j hj hc=>?_⟩
   rcases List.mem_cons.1 hj with rfl|hj
   ·rw[hb] at hc;cases hc
   ·exact b2 j hj hc
theorem nextL_mem{ops:Array Oper}{cl:List (List Nat)}{W:List Row4}:∀{l L L':List (List Nat×Sto)},nextL C e ops cl W l L=some L'→(∀y∈L,y∈L')∧∀K st,(K,st)∈l→∀j,j<ops.size→(isAct W j&&(!K.elem j&&rdyK cl W K j))=true→∀o ρ v d,W[j]?=some (o,ρ,v,d)→∃st' d',drawOp C e ops o ρ st=some (v,st',d')∧(insK ops.size K j,st')∈L'
 |[],L,L',h=>by
  cases h;exact⟨fun y hy=>hy,fun K st hx=>absurd hx List.not_mem_nil⟩
 |x::r,L,L',h=>by
  unfold nextL at h;split at h
  ·rename_i L1 h1;obtain⟨a1,a2⟩:=nextJ_mem h1;obtain⟨b1,b2⟩:=nextL_mem h;refine⟨fun y hy=>b1 y (a1 y hy),fun K st hx j hj hc o ρ v d hw=>?_⟩
   rcases List.mem_cons.1 hx with rfl|hx
   ·obtain⟨st',d',c1,c2⟩:=a2 j (List.mem_range.2 hj) hc o ρ v d hw;exact⟨st',d',c1,b1 _ c2⟩
   ·exact b2 K st hx j hj hc o ρ v d hw
  ·cases h
theorem explore_at{cl:List (List Nat)}(h:explore C e ops cl W sf q L=true)(hx:(K,st)∈L):
  ∃q' L',explore C e ops cl W sf q' L'=true∧(K.length=((List.range ops.size).filter (isAct W)).length→st=sf)∧(∀j,j<ops.size→kOk C cl W K st j=true)∧∀j,j<ops.size→(isAct W j&&(!K.elem j&&rdyK cl W K j))=true→∀o ρ v d,W[j]?=some (o,ρ,v,d)→∃st' d',drawOp C e ops o ρ st=some (v,st',d')∧(insK ops.size K j,st')∈L':=by
 cases q with
 |zero=>
  unfold explore at h;rw[List.isEmpty_iff.1 h] at hx;cases hx
 |succ q=>
  unfold explore at h;rw[Bool.and_eq_true] at h;obtain⟨h1,h2⟩:=h;split at h2
  ·rename_i L' hn;have h3:=List.all_eq_true.1 h1 _ hx;simp only[Bool.and_eq_true,Bool.or_eq_true,Bool.not_eq_true'] at h3;refine⟨q,L',h2,fun hk=>?_,fun j hj=>List.all_eq_true.1 h3.2 j (List.mem_range.2 hj),fun j hj hc=>(nextL_mem hn).2 K st hx j hj hc⟩
   rcases h3.1 with h4|h4
   ·rw[hk,Nat.beq_refl] at h4;cases h4
   ·exact eqL_eq eqSO2_eq h4
  ·cases h2
theorem drawRun_envs{ops:Array Oper}:∀{l:List Oper}{s s':AS}{tr:List Tr},drawRun C e ops l s=some (s',tr)→∃ρs sts,Run C e ops (fun _=>false) l s s' tr ρs sts∧∀(j:Nat) o,l[j]?=some o→∃v d,(drawEnvs C e ops l s)[j]?=some (o,aonly (looks ops o) (ρs j),v,d)∧drawOp C e ops o (aonly (looks ops o) (ρs j)) (sts j)=some (v,sts (j+1),d)∧ρs (j+1)=aput o.dst v (ρs j)
 |[],s,s',tr,h=>by
  simp only[drawRun,Option.some.injEq,Prod.mk.injEq] at h;obtain⟨rfl,rfl⟩:=h;exact⟨_,_,Run.nil,fun j o ho=>by simp at ho⟩
 |o::r,s,s',tr,h=>by
  simp only[drawRun] at h;split at h
  ·rename_i v st d hd;split at h
   ·rename_i s2 l2 hr;cases h;obtain⟨ρs,sts,hrun,hW⟩:=drawRun_envs hr;refine⟨fun i=>match i with
     |0=>s.env
     |i+1=>ρs i,fun i=>match i with
     |0=>s.st
     |i+1=>sts i,⟨by simp[hrun.len],rfl,hrun.e1,rfl,hrun.s1,fun i' o1 t1 ho ht=>?_⟩,fun j o1 ho=>?_⟩
    ·cases i' with
     |zero=>
      simp only[List.getElem?_cons_zero,Option.some.injEq] at ho ht;subst ho;subst ht;refine⟨⟨rfl,rfl⟩,hrun.s0.symm,.inl ⟨rfl,v,?_,hrun.e0⟩⟩;simp only[hrun.s0];exact hd
     |succ i'=>exact hrun.at_ i' o1 t1 (by simpa using ho) (by simpa using ht)
    ·cases j with
     |zero=>
      simp only[List.getElem?_cons_zero,Option.some.injEq] at ho;subst ho;refine⟨v,d,by simp only[drawEnvs,hd,List.getElem?_cons_zero],?_,hrun.e0⟩
      simp only[hrun.s0];exact hd
     |succ j=>
      obtain⟨v1,d1,h1,h2,h3⟩:=hW j o1 (by simpa using ho)
      exact⟨v1,d1,by simp only[drawEnvs,hd,List.getElem?_cons_succ];exact h1,h2,h3⟩
   ·cases h
  ·cases h
theorem drawOp_at{sa sb:Sto}(h:drawOp C e ops o ρ sa=some (v,sb,d))(hd:d≠.a)(hd':d≠.al)(hk:∀id,d=.k id→aK C.P ρ st o.op=some v):drawOp C e ops o ρ st=some (v,st,d):=by
 unfold drawOp at h⊢;split at h
 ·cases h;rfl
 ·split at h
  ·cases h;rfl
  ·split at h
   ·rename_i v1 hv1;split at h
    ·rename_i id hid;cases h;rw[hk id rfl]
    ·cases h
   ·split at h
    ·rename_i v1 hv1;cases h;have:aK C.P ρ st o.op=none:=by
      unfold pureAct at hv1;split at hv1
      ·rename_i hop;rw[hop];rfl
      ·rename_i hop;rw[hop];rfl
      ·cases hv1
     rw[this]
    ·split at h
     ·cases h;rcases actK_or ops o with e'|e'
      ·exact absurd e' hd
      ·exact absurd e' hd'
     ·cases h;exact absurd rfl hd
     ·cases h
 ·cases h
theorem drawOp_go(he:CallOk C.P e.call){F:Act→World→Prop}(hs:Sit E m φ μ st w)(hsee:EnvR m φ ρ a)(hdo:drawOp C e ops o ρ st=some (v,st',d))
  (hn:∀u w' m' φ' μ',Mem.le m m'→Ext st st' φ φ'→Sit E m' φ' μ' st' w'→R m' φ' v u→F (a.put o.dst u) w'):(guardP ops ρ o.guard=some false∧F (a.put o.dst undef) w)∨(guardP ops ρ o.guard=some true∧o.wp C.P a w F Q):=by
 unfold drawOp at hdo;split at hdo
 ·rename_i hg;cases hdo;exact .inl ⟨hg,hn undef w m φ μ (Mem.le.refl m) (Ext.refl _ _) hs undef_R⟩
 ·rename_i hg;refine .inr ⟨hg,?_⟩;have does:st'=st→Does C.P w a m φ o v→o.wp C.P a w F Q:=fun e' ⟨u,h1,h2⟩=>by
   subst e';unfold Oper.wp;rw[h1];exact hn u w m φ μ (Mem.le.refl m) (Ext.refl _ _) hs h2
  split at hdo
  ·rename_i v1 hv1;cases hdo;exact does rfl (does_P (Am.Good.memW hs.good) hsee hv1)
  ·rename_i hP;split at hdo
   ·rename_i v1 hv1;split at hdo
    ·cases hdo;exact does rfl (does_K hs hsee hv1)
    ·cases hdo
   ·rename_i hK;have hoper:∀r,aS C e ρ st o.op=some r→aoper C e ρ st o.op=some r:=fun r hr'=>by
     unfold aoper
     grind
    split at hdo
    ·rename_i v1 hv1;cases hdo;exact pureAct_ok he hs hsee hv1 hn
    ·split at hdo
     ·rename_i v1 st1 hv1;cases hdo;refine oper_ok he hs hsee (r:=.val v st') (hoper _ hv1) (fun x1 st2 u w' m' φ' μ' hr' q1 q2 q3 q4=>?_) (fun st2 w' m' φ' μ' hr'=>by cases hr') (fun x1 st2 u c w' m' φ' μ' hr'=>by cases hr')
      cases hr';exact hn u w' m' φ' μ' q1 q2 q3 q4
     ·rename_i st1 hv1;cases hdo;refine oper_ok he hs hsee (r:=.unit st') (hoper _ hv1) (fun x1 st2 u w' m' φ' μ' hr'=>by cases hr') (fun st2 w' m' φ' μ' hr' q1 q2 q3=>?_) (fun x1 st2 u c w' m' φ' μ' hr'=>by cases hr')
      cases hr';exact hn undef w' m' φ' μ' q1 q2 q3 undef_R
     ·cases hdo
 ·cases hdo
def doneK(ops:Array Oper)(W:List Row4)(A:Array Bool):List Nat:=(List.range ops.size).filter fun i=>isAct W i&&A.getD i true
theorem DInv.re{sts':Nat→Sto}(h:DInv C D E n ops m0 φ0 st0 s s' tr sts A k m φ μ [] a w)(e':sts' k'=sts k)(hk:k'≤ops.size):DInv C D E n ops m0 φ0 st0 s s' [] sts' A k' m φ μ [] a w:=
 ⟨h.mem,by rw[e'];exact h.ext,h.good,by rw[e'];exact h.sto,by rw[e'];exact h.dom,h.size,h.tsz,h.dfr,h.clo,hk,fun i t ht=>by simp at ht,fun i t ht=>by simp at ht,fun y hy=>absurd hy List.not_mem_nil,fun i t ht=>by simp at ht,h.env0,h.env⟩
theorem ord_main(he:CallOk C.P e.call){I:List Nat→Sto→Prop}(hc:Chn ops s s' ρs)(hst:statOk2 ops=true)
  (hW:∀(j:Nat) o,ops[j]?=some o→Z j=false→∃v d sa sb,W[j]?=some (o,aonly (looks ops o) (ρs j),v,d)∧drawOp C e ops o (aonly (looks ops o) (ρs j)) sa=some (v,sb,d)∧ρs (j+1)=aput o.dst v (ρs j)) (hdsts:∀(j:Nat) o,ops[j]?=some o→dstOk n o.dst=true) (hOI:OrdI C e ops W I) {Qf:Exit→Act→World→Prop}
  (hfin:∀A st m φ μ a w,DInv C D E n ops m0 φ0 st0 s s' [] (fun _=>st) A 0 m φ μ [] a w→I (doneK ops W A) st→(∀i,Z i=true→i<ops.size→A.getD i true=false)→(∀i,i<ops.size→A.getD i true=true)→Qf .normal a w)
  (hpan:∀j o,Z j=true→ops[j]?=some o→(∃q,q<ops.size∧Z q=true∧q∈(clos [] ops.toList).getD j [])∨(∀K st,I K st→rdyK (clos [] ops.toList) W K j=true→∃v sp,panOp C e ops o (aonly (looks ops o) (ρs j)) st=some (v,sp) ∧
   ∀A m φ μ a w m' φ' μ' c u w',DInv C D E n ops m0 φ0 st0 s s' [] (fun _=>st) A 0 m φ μ [] a w→Mem.le m m'→Ext st sp φ φ'→Sit ⟨w,m,feetOf μ⟩ m' φ' μ' sp w'→R m' φ' v u→PanL u c→Qf (.panic c) a w')) :
  ∀fuel A st m φ μ a w,DInv C D E n ops m0 φ0 st0 s s' [] (fun _=>st) A 0 m φ μ [] a w→I (doneK ops W A) st→(∀i,Z i=true→i<ops.size→A.getD i true=false)→cnt ops A≤fuel→wpAny C.P .any ops Qf fuel A a w:=by
 intro fuel
 induction fuel with
 |zero=>
  intro A st m φ μ a w hI hx hZA hcn;have hA:∀i,i<ops.size→A.getD i true=true:=fun i hi=>by
   simp_all[cnt,List.countP_eq_zero]
  refine⟨?_,hfin A st m φ μ a w hI hx hZA hA⟩;cases hrd:Region.ready .any ops A with
  |nil=>rfl
  |cons i l=>
   obtain⟨h1,h2,_⟩:=Gw.mem_ready (ops:=ops) (A:=A) (i:=i) (by grind)
   grind
 |succ fuel ih=>
  intro A st m φ μ a w hI hx hZA hcn;refine⟨fun hnil=>hfin A st m φ μ a w hI hx hZA (fun i hi=>?_),fun j hj=>?_⟩
  ·cases hb:A.getD i true with
   |true=>rfl
   |false=>exact absurd hnil (ready_ne' hst hI.size hi hb)
  obtain⟨hj1,hj2,o,ho,hdep⟩:=Gw.mem_ready hj;have hc':=cnt_set hI.size hj1 hj2 hcn;have hup:∀x∈deps o,A.getD x true=true:=fun x hx=>Gw.getD_up (hdep x hx)
  have hcl:=clos_down hst hI.clo;have hclt:=clos_lt hst;have hsee:=hI.sees hst hc ho hj1 hdep hj2 (fun y hy=>absurd hy List.not_mem_nil)
  have hrdy:rdyK (clos [] ops.toList) W (doneK ops W A) j=true:=List.all_eq_true.2 fun i hi=>by
   have hd:=hcl j o ho hup i hi;have hlt:=hclt j o ho i hi;cases ha:isAct W i with
   |false=>rfl
   |true=>
    have:i∈doneK ops W A:=List.mem_filter.2 ⟨List.mem_range.2 (by omega),by rw[ha,hd];rfl⟩
    simpa using this
  cases hzj:Z j with
  |true=>
   rcases hpan j o hzj ho with⟨q,hq1,hq2,hq3⟩|hp
   ·have h1:=hcl j o ho hup q hq3;rw[hZA q hq2 hq1] at h1;cases h1
   ·obtain⟨v,sp,hp,hq⟩:=hp _ _ hx hrdy;unfold wpOp;rw[ho];show if _ then _ else _
    unfold panOp at hp;split at hp
    ·rename_i hg;rw[if_pos (guard_ok hsee hg)];refine .inl ?_;split at hp
     ·rename_i g xs ts hop;split at hp
      ·rename_i v1 st1 hc;cases hp;refine oper_ok he hI.sit hsee (r:=.pan v sp) (by rw[hop];exact hc) (fun x1 st2 u w' m' φ' μ' hr'=>by cases hr') (fun st2 w' m' φ' μ' hr'=>by cases hr') (fun x1 st2 u c w' m' φ' μ' hr' hcc q1 q2 q3 q4=>?_)
       grind
      ·cases hp
     ·cases hp
    ·cases hp
  |false=>
  have hZA':∀i,Z i=true→i<ops.size→(A.setIfInBounds j true).getD i true=false:=fun i hi hlt=>by
   rw[getD_set hI.size hj1,if_neg (fun e'=>by grind)]
   exact hZA i hi hlt
  obtain⟨v,d,sa,sb,hw,hda,hput⟩:=hW j o ho hzj;have next:∀st',I (doneK ops W (A.setIfInBounds j true)) st'→∀u w' m' φ' μ',Mem.le m m'→Ext st st' φ φ'→Sit ⟨w,m,feetOf μ⟩ m' φ' μ' st' w'→R m' φ' v u→wpAny C.P .any ops Qf fuel (A.setIfInBounds j true) (a.put o.dst u) w':=fun st' hL2 u w' m' φ' μ' r1 r2 r3 r4=>by
   have hI0:DInv C D E n ops m0 φ0 st0 s s' [] (fun i=>match i with
    |0=>st
    |_+1=>st') A 0 m φ μ [] a w:=hI.re rfl (Nat.zero_le _)
   exact ih _ st' m' φ' μ' _ _ ((hI0.put (k':=1) (X':=[]) hst hc ho (hdsts j o ho) hj1 hj2 hdep r1 r2 (hI0.good.back r3.good) r3.sto r3.dom (by omega) (fun i t ht=>by simp at ht) (fun i t ht=>by simp at ht) (fun y hy=>hy) (fun y hy=>absurd hy List.not_mem_nil) (fun t ht=>by simp at ht) (by omega) hput (.inr r4)).re rfl (Nat.zero_le _)) hL2 hZA' hc'
  have run:∀st' d',drawOp C e ops o (aonly (looks ops o) (ρs j)) st=some (v,st',d')→I (doneK ops W (A.setIfInBounds j true)) st'→wpOp C.P ops Qf j (fun a w=>wpAny C.P .any ops Qf fuel (A.setIfInBounds j true) a w) a w:=fun st' d' hd hL2=>by
   unfold wpOp;rw[ho];show if _ then _ else _
   rcases drawOp_go (Q:=Qf) (F:=fun a w=>wpAny C.P .any ops Qf fuel (A.setIfInBounds j true) a w) he hI.sit hsee hd (next st' hL2) with⟨hg,hF⟩|⟨hg,hF⟩
   ·rw[if_neg (by rw[guard_ok hsee hg];simp)]
    exact hF
   ·rw[if_pos (guard_ok hsee hg)];exact .inl hF
  cases ha:isAct W j with
  |true=>
   have hno:(doneK ops W A).elem j=false:=by
    cases hb:(doneK ops W A).elem j with
    |false=>rfl
    |true=>
     have:=(List.mem_filter.1 (show j∈doneK ops W A by simpa using hb)).2
     rw[ha,hj2] at this;cases this
   obtain⟨st',d',hd,hm⟩:=hOI.act _ _ hx j o _ v d hj1 (by rw[ha,hrdy,hno];rfl) hw
   refine run st' d' hd ?_;have:doneK ops W (A.setIfInBounds j true)=insK ops.size (doneK ops W A) j:=List.filter_congr fun i hi=>by
    rw[getD_set hI.size hj1];have h1:(doneK ops W A).elem i=(isAct W i&&A.getD i true):=by
     rw[Bool.eq_iff_iff];simp[doneK,List.mem_range.1 hi]
    rw[h1]
    by_cases hij:i=j
    ·subst hij;rw[if_pos rfl,ha,Nat.beq_refl,Bool.or_true];rfl
    ·have:Nat.beq i j=false:=by
      cases hb:Nat.beq i j with
      |false=>rfl
      |true=>exact absurd (Nat.eq_of_beq_eq_true hb) hij
     rw[if_neg hij,this,Bool.or_false]
   rw[this];exact hm
  |false=>
   have hd:=drawOp_at (st:=st) hda (by rintro rfl;simp[isAct,hw] at ha) (by rintro rfl;simp[isAct,hw] at ha) (fun id e'=>by
    subst e';have hnone:((doneK ops W A).any fun i=>((clos [] ops.toList).getD i []).elem j)=false:=by
     rw[List.any_eq_false]
     intro i hi hji;obtain⟨h1,h2⟩:=List.mem_filter.1 hi;have hin:=List.mem_range.1 h1;have hoi:ops[i]?=some ops[i]:=Array.getElem?_eq_getElem hin;rw[Bool.and_eq_true] at h2;have:=hcl i _ hoi (hI.clo i _ hoi h2.2) j (by simpa using hji)
     rw[hj2] at this;cases this
    exact hOI.look _ _ hx j o _ v id hj1 hw hrdy hnone)
   refine run st _ hd ?_;have:doneK ops W (A.setIfInBounds j true)=doneK ops W A:=List.filter_congr fun i hi=>by
    rw[getD_set hI.size hj1]
    by_cases hij:i=j
    ·subst hij;rw[ha];rfl
    ·rw[if_neg hij]
   rw[this];exact hx
theorem explore_ord{s0:Sto}(h:explore C e ops (clos [] ops.toList) W sf q [([],s0)]=true):OrdP C e ops W s0 sf:=by
 refine⟨fun K st=>∃q L,explore C e ops (clos [] ops.toList) W sf q L=true∧(K,st)∈L,⟨q,_,h,List.mem_singleton.2 rfl⟩,⟨?_,?_⟩,?_⟩
 ·rintro K st ⟨q,L,h1,h2⟩ j o ρ v id hj hw hr hn;obtain⟨q',L',_,_,hk,_⟩:=explore_at h1 h2;have hkj:=hk j hj;unfold kOk at hkj;rw[hw] at hkj;dsimp only at hkj;rw[hr,hn] at hkj;cases hv':aK C.P ρ st o.op with
  |none=>
   rw[hv'] at hkj;cases hkj
  |some v'=>
   rw[hv'] at hkj;rw[eqPV2_eq 400 v v' hkj]
 ·rintro K st ⟨q,L,h1,h2⟩ j o ρ v d hj hc hw;obtain⟨q',L',hx',_,_,hact⟩:=explore_at h1 h2;obtain⟨st',d',hd,hm⟩:=hact j hj hc o ρ v d hw;exact⟨st',d',hd,q',L',hx',hm⟩
 ·rintro K st ⟨q,L,h1,h2⟩ hl;obtain⟨q',L',_,h3,_⟩:=explore_at h1 h2;exact h3 hl
theorem DInv.start(hr:Run C e ops Z ops.toList s s' tr ρs sts)(hm:Mem.le m0 m)(hxt:Ext st0 s.st φ0 φ)(hs:Sit E m φ μ s.st w)(h:EnvR m φ s.env a)(hn:a.tmps.size=n)(hD:a.defers=D):
  DInv C D E n ops m0 φ0 st0 s s' tr sts (Array.replicate ops.size false) 0 m φ μ [] a { w with drawn:=w.drawn+1 }:=by
 refine⟨hm,hr.s0▸hxt,by simp only[entsO,List.map_nil,List.append_nil];exact hs.good.drew _,hr.s0▸hs.sto,hr.s0▸hs.dom,by simp,hn,hD,fun i o ho e'=>?_,Nat.zero_le _,fun i t _ _ hi=>absurd hi (Nat.not_lt_zero _),fun i t ht _ _=>?_,fun x hx=>absurd hx List.not_mem_nil,fun i t ht _ _ hA=>?_,fun t y hy=>.inr (h t y hy),fun t y hy=>?_⟩
 ·rw[Array.getD_eq_getD_getElem?,Array.getElem?_replicate,if_pos (Array.getElem?_eq_some_iff.1 ho).1] at e';cases e'
 ·have hi:i<ops.size:=by
   have:=(List.getElem?_eq_some_iff.1 ht).1;rw[hr.len] at this;simpa using this
  simp_all
 ·have hi:i<ops.size:=by
   have:=(List.getElem?_eq_some_iff.1 ht).1;rw[hr.len] at this;simpa using this
  simp_all
 ·by_cases hw:∃(i:Nat) (o:Oper),ops[i]?=some o∧o.dst=some t
  ·obtain⟨i,o,h1,h2⟩:=hw;refine .inl ⟨i,o,h1,h2,?_⟩;rw[Array.getD_eq_getD_getElem?,Array.getElem?_replicate,if_pos (Array.getElem?_eq_some_iff.1 h1).1];rfl
  ·have:=hr.chn.fin (t:=t) (k:=ops.size) (j:=0) (by omega) (fun i o _ ho e'=>hw ⟨i,o,ho,e'⟩)
   rw[this,hr.e0] at hy;exact .inr (.inr (h t y hy))
theorem writes_no{t:Nat}(e':o.dst=some t):∀{l:List Oper},o∈l→writes t l=true:=by
 intro l
 induction l with
 |nil=>intro h;cases h
 |cons q r ih=>
  grind [writes,Nat.beq_refl]
theorem aoff_get{ops:List Oper}:∀{ρ:AEnv}{t:Nat}{x:PV},aget (aoff ops ρ) t=some x→aget ρ t=some x∧writes t ops=false
 |[],t,x,h=>by simp[aoff,aget] at h
 |(k,v)::r,t,x,h=>by
  unfold aoff at h;split at h
  ·rename_i hw;obtain⟨h1,h2⟩:=aoff_get h;refine⟨?_,h2⟩;simp only[aget];split
   ·simp_all
   ·exact h1
  ·rename_i hw;simp only[aget] at h⊢;split at h
   ·simp_all
   ·exact aoff_get h
theorem SRo.only{f:Nat→Bool}{id:Nat}{o:SO}{rs:Own}(h:SRo m φ id o rs)(hid:f id=true)(ho:soIn f o=true):SRo m (Am.only f φ) id o rs:=by
 have hφ:Am.only f φ id=φ id:=by simp[Am.only,hid]
 cases o with
 |dead=>exact h
 |box T cs=>obtain⟨b,vs,h1,h2,h3,h4⟩:=h;exact⟨b,vs,hφ.trans h1,h2,h3.only ho,h4⟩
 |frz cs=>obtain⟨h0,b,vs,h1,h2,h3,h4⟩:=h;exact⟨h0,b,vs,hφ.trans h1,h2,h3.only ho,h4⟩
 |lp ρ ps a b s=>
  obtain⟨l,r,h1,h2,h3,h4,h5,h6,h7,h8,h9,h10⟩:=h;refine⟨l,r,hφ.trans h1,h2,h3,h4,h5,h6,h7,h8,h9,fun t x ht=>?_⟩
  obtain⟨v,q1,q2⟩:=h10 t x ht;obtain⟨p,hp,rfl⟩:=aget_mem ht;exact⟨v,q1,q2.only f 8 (List.all_eq_true.1 ho p hp)⟩
 |mp ks vs=>obtain⟨b,en,clock,h1,h2,h3,h4⟩:=h;exact⟨b,en,clock,hφ.trans h1,h2,h3,h4.only ho⟩
 |ch c q=>obtain⟨b,us,s,r,h1,h2,h3⟩:=h;exact⟨b,us,s,r,hφ.trans h1,h2,h3.only ho⟩
 |row p e sz xs=>
  obtain⟨a,cap,vss,h1,h2,h3,h4,h5⟩:=h;refine⟨a,cap,vss,hφ.trans h1,h2,h3,h4,fun i x vs hx hv=>?_⟩
  obtain⟨q1,q2,q3,q4⟩:=h5 i x vs hx hv;refine⟨q1,q2,q3,q4.1,fun j c v hc hv'=>?_⟩
  have hxi:=List.all_eq_true.1 ho x (List.mem_of_getElem? hx);have:inIds f 8 c=true:=by
   unfold PV.cells at hc;split at hc
   ·simp only[inIds] at hxi;exact inIds_up (List.all_eq_true.1 hxi c (List.mem_of_getElem? hc))
   grind
  exact R.only f 8 this (q4.2 j c v hc hv')
theorem SR.only{f:Nat→Bool}:∀{k:Nat}{st:Sto}{μ:Own},SR m φ k st μ→(∀i,k≤i→i<k+st.length→f i=true)→st.all (soIn f)=true→SR m (Am.only f φ) k st μ
 |_,[],_,h,_,_=>h
 |k,o::r,μ,h,hf,ho=>by
  obtain⟨rs,μ',h1,h2,h3⟩:=h;simp only[List.all_cons,Bool.and_eq_true] at ho;exact⟨rs,μ',h1,h2.only (hf k (Nat.le_refl k) (by simp)) ho.1,h3.only (fun i h4 h5=>hf i (by omega) (by grind)) ho.2⟩
theorem SR.fewer:∀{k:Nat}{st st':Sto}{μ:Own},SR m φ k st μ→st'.length≤st.length→(∀(i:Nat) (o:SO),st'[i]?=some o→st[i]?=some o∨o=.dead)→∃μ',μ'.Sublist μ∧SR m φ k st' μ'
 |k,st,[],μ,_,_,_=>⟨[],List.nil_sublist _,rfl⟩
 |k,[],o'::r',μ,_,hl,_=>by simp at hl
 |k,o::r,o'::r',μ,h,hl,hd=>by
  obtain⟨rs,μ',rfl,h2,h3⟩:=h;obtain⟨ν,h4,h5⟩:=SR.fewer h3 (show r'.length≤r.length by simpa using hl) (fun i q hq=>by simpa using hd (i+1) q (by simpa using hq))
  rcases hd 0 o' rfl with h6|h6
  ·simp only[List.getElem?_cons_zero,Option.some.injEq] at h6;subst h6;exact⟨rs++ν,h4.append_left rs,⟨rs,ν,rfl,h2,h5⟩⟩
  ·subst h6;exact⟨ν,h4.trans (List.sublist_append_right _ _),⟨[],ν,rfl,rfl,h5⟩⟩
theorem weakS_len:∀{st st':Sto},weakS st st'→st'.length≤st.length
 |_,[],_=>Nat.zero_le _
 |[],_::_,h=>h.elim
 |_::r,_::r',h=>Nat.succ_le_succ (weakS_len (st:=r) (st':=r') h.2)
theorem weakS_get:∀{st st':Sto},weakS st st'→∀(i:Nat) (o:SO),st'[i]?=some o→st[i]?=some o∨o=.dead
 |_,[],_,i,o,h=>by simp at h
 |[],_::_,h,_,_,_=>h.elim
 |q::r,q'::r',h,i,o,ho=>by
  cases i with
  |zero=>
   simp only[List.getElem?_cons_zero,Option.some.injEq] at ho⊢;subst ho;exact h.1.imp (fun e=>e.symm) id
  |succ i=>simpa using weakS_get (st:=r) (st':=r') h.2 i o (by simpa using ho)
theorem wipe_len{T:List Nat}:∀{k:Nat}{st:Sto},(wipe T k st).length=st.length
 |_,[]=>rfl
 |k,o::r=>by simp[wipe,wipe_len]
theorem wipe_dead{T:List Nat}:∀{k:Nat}{st:Sto}{i:Nat},st[i]?=some .dead→(wipe T k st)[i]?=some .dead
 |_,[],i,h=>by simp at h
 |k,o::r,i,h=>by
  cases i with
  |zero=>
   simp only[List.getElem?_cons_zero,Option.some.injEq] at h;subst h;simp only[wipe,List.getElem?_cons_zero];split<;>rfl
  |succ i=>simpa[wipe] using wipe_dead (T:=T) (k:=k+1) (st:=r) (i:=i) (by simpa using h)
theorem wipe_ok{T:List Nat}{φ1:Ph}{st1:Sto}{E:Entry}{m:Mem}{μ:Own}{w:World}(hd:∀id,st0.length≤id→φ0 id=none)(hx:Ext st0 st1 φ0 φ1)(hs:Sit E m φ1 μ st1 w)(hw:weakS st1 (wipe T 0 st0))(hcl:(wipe T 0 st0).all (soIn fun i=>Nat.blt i (wipe T 0 st0).length)=true):∃φ2 μ2,Ext st0 (wipe T 0 st0) φ0 φ2∧Sit E m φ2 μ2 (wipe T 0 st0) w∧φ2=only (fun i=>Nat.blt i (wipe T 0 st0).length) φ1:=by
 have hl:(wipe T 0 st0).length=st0.length:=wipe_len;obtain⟨μ2,p1,p2⟩:=hs.sto.fewer (weakS_len hw) (weakS_get hw);have hf:∀i,i<(wipe T 0 st0).length→Nat.blt i (wipe T 0 st0).length=true:=fun i hi=>Nat.ble_eq_true_of_le hi
 have hF:∀i,i<st0.length→only (fun i=>Nat.blt i (wipe T 0 st0).length) φ1 i=φ1 i:=fun i hi=>by simp only[only,hf i (by omega)]
 refine⟨only (fun i=>Nat.blt i (wipe T 0 st0).length) φ1,μ2,⟨fun id=>?_,Nat.le_of_eq hl.symm,fun id hid=>?_⟩,⟨hs.good.drop p1,p2.only (fun i _ hi=>hf i (by omega)) hcl,fun id hid=>?_⟩,rfl⟩
 ·by_cases hlt:id<st0.length
  ·rw[hF id hlt];exact hx.le id
  ·have h0:=hd id (by omega)
   exact⟨fun b h=>by rw[h0] at h;(first|cases h|contradiction),fun sv n sz h=>by rw[h0] at h;(first|cases h|contradiction)⟩
 ·have hlt:=(List.getElem?_eq_some_iff.1 hid).1;obtain⟨d1,d2⟩:=hx.dead id hid;exact⟨wipe_dead hid,by rw[hF id hlt,d2]⟩
 ·have h0:Nat.blt id (wipe T 0 st0).length=false:=by
   cases h:Nat.blt id (wipe T 0 st0).length with
   |false=>rfl
   |true=>have:id<(wipe T 0 st0).length:=Nat.le_of_ble_eq_true h;omega
  simp only[only,h0]
theorem adraw_ok{ro:Option Nat}{kk:Nat}(hmix:C.P.follows .mixedOrders=true)(he:CallOk C.P e.call){x:AX}(hx:adraw C e ops s=some (x,s'))(hsl:slots n (.region id ops true)=true)(hm:Mem.le m0 m)(hxt:Ext st0 s.st φ0 φ)(hs:Sit E m φ μ s.st w)(h:EnvR m φ s.env a)(hn:a.tmps.size=n)(hD:a.defers=D):
  (Code.region id ops true).wpIn (FF ro) kk C.P (Post D E n m0 φ0 st0 x s') a w:=by
 have hnd:∀(j:Nat) o,ops[j]?=some o→noDefer o.op=true:=fun j o ho=>by
  simp only[slots] at hsl
  grind
 have hdsts:∀(j:Nat) o,ops[j]?=some o→dstOk n o.dst=true:=fun j o ho=>by
  simp only[slots] at hsl
  grind
 have hnd':=hnd;unfold adraw at hx;split at hx
 ·rename_i s1 tr hrun;split at hx
  ·rename_i hok0;cases hx;obtain⟨ρs,sts,hr,hW⟩:=drawRun_envs hrun;rw[Bool.or_eq_true] at hok0;rcases hok0 with hok|hok
   rotate_left
   ·obtain⟨hst,I,hI1,hI2,hI3⟩:statOk2 ops=true∧OrdP C e ops (drawEnvs C e ops ops.toList s) s.st s'.st:=by
     rw[Bool.or_eq_true] at hok;rcases hok with hok|hok
     ·unfold drawOk2 at hok;simp only[Bool.and_eq_true] at hok;exact⟨hok.1,explore_ord hok.2.2⟩
     ·unfold drawOk3 at hok;exact @of_decide_eq_true _ (_) hok
    have hI0:=DInv.start (n:=n) (D:=D) hr hm hxt hs h hn hD;refine wpIn_region_any hmix (any_FF hnd Post.in (ord_main (Z:=fun _=>false) he hr.chn hst (fun j o ho _=>?_) hdsts hI2 (fun A st m φ μ a w hI hx _ hall=>?_) (fun j o hz=>by cases hz) _ _ s.st m φ μ a _ (hI0.re hr.s0.symm (Nat.zero_le _)) ?_ (fun i hz=>by cases hz) ?_))
    ·obtain⟨v,d,h1,h2,h3⟩:=hW j o (by simpa using ho)
     exact⟨v,d,_,_,h1,h2,h3⟩
    ·have hd:doneK ops (drawEnvs C e ops ops.toList s) A=(List.range ops.size).filter (isAct (drawEnvs C e ops ops.toList s)):=List.filter_congr fun i hi=>by rw[hall i (List.mem_range.1 hi),Bool.and_true]
     obtain rfl:=hI3 _ _ hx (by rw[hd])
     refine⟨m,φ,μ,hI.mem,hI.ext,⟨by simpa[entsO] using hI.good,hI.sto,hI.dom⟩,fun t y hy=>?_,hI.tsz,hI.dfr,rfl⟩
     rcases hI.env t y hy with⟨i,q,e1,e2,e3⟩|⟨z,hz,_⟩|hv
     ·grind
     ·cases hz
     ·exact hv
    ·have:doneK ops (drawEnvs C e ops ops.toList s) (Array.replicate ops.size false)=[]:=by
      unfold doneK;rw[List.filter_eq_nil_iff]
      intro i hi;have:=List.mem_range.1 hi;simp[this]
     rw[this];exact hI1
    ·unfold cnt;exact Nat.le_trans (List.countP_le_length) (by simp)
   obtain⟨hst,hpair⟩:=drawOk_pair hok;have hfin:∀A k m φ μ X a w,DInv C D E n ops m0 φ0 st0 s s' tr sts A k m φ μ X a w→(∀i,i<ops.size→A.getD i true=true)→Post D E n m0 φ0 st0 .normal s' .normal a w:=fun A k m φ μ X a w hI hall=>by
    have hk:=hI.le;obtain⟨φ',μ',X',hI'⟩:=hI.upto hst hr (d:=ops.size-k) (by omega) (fun i t h1 h2 ht=>⟨fun ha=>(by
     have:=hI.left i t ht ha h1
     grind),fun _=>hall i (by omega)⟩)
    rw[show k+(ops.size-k)=ops.size by omega] at hI'
    have hX:X'=[]:=by
     cases X' with
     |nil=>rfl
     |cons x r=>
      obtain⟨⟨⟨q,t,e1,_⟩,_⟩,h2⟩:=hI'.ents x List.mem_cons_self
      grind
    subst hX;have hend:sts ops.size=s'.st:=by
     have:=hr.s1;simpa using this
    refine⟨m,φ',μ',hI'.mem,hend▸hI'.ext,⟨by simpa[entsO] using hI'.good,hend▸hI'.sto,hend▸hI'.dom⟩,fun t y hy=>?_,hI'.tsz,hI'.dfr,rfl⟩
    rcases hI'.env t y hy with⟨i,q,e1,e2,e3⟩|⟨z,hz,_⟩|hv
    ·grind
    ·cases hz
    ·exact hv
   refine wpIn_region_any hmix (any_FF hnd Post.in (draw_main he hr hst hpair hdsts (fun A k m φ μ X a w hI _ hall=>hfin A k m φ μ X a w hI hall) (fun j o t hz=>by cases hz) _ _ 0 m φ μ [] a _ (DInv.start hr hm hxt hs h hn hD) (fun i hz=>by cases hz) ?_))
   unfold cnt;exact Nat.le_trans (List.countP_le_length) (by simp)
  ·cases hx
 ·split at hx
  ·rename_i v st tr hrun;split at hx
   ·rename_i hok;cases hx;obtain⟨q,s1,ρs,sts,hr,o0,t0,hq1,hq2,hq3,hq4,hq5⟩:=drawPan_run hrun;have hqs:q<ops.size:=by grind
    obtain⟨hst,hpair⟩:=drawOk_pair hok;refine wpIn_region_any hmix (any_FF hnd Post.in (draw_main he hr hst hpair hdsts (fun A k m φ μ X a w hI hZA hall=>?_) (fun j o t hz ho ht=>?_) _ _ 0 m φ μ [] a _ (DInv.start hr hm hxt hs h hn hD) (fun i hz hi=>?_) ?_))
    ·-- it does not come to the end
     have e1:Nat.ble q q=true:=Nat.ble_eq_true_of_le (Nat.le_refl q);have:=hZA q (by simp[e1]) hqs
     grind
    ·by_cases hjq:j=q
     ·subst hjq;rw[hq2] at ht;cases ht;have:o0=o:=by
       grind
      subst this;refine .inr ⟨hq3,v,st,hq4,fun A m1 φ1 μ1 X1 a1 w1 m' φ' μ' c u w' hI q1 q2 q3 q4 q5 _=>?_⟩
      have hg:=hI.good.back q3.good;refine⟨m',φ',μ',hI.mem.trans q1,hI.ext.trans q2,⟨hg.drop (List.sublist_append_left _ _),q3.sto,q3.dom⟩,fun t x hx=>?_,hI.tsz,hI.dfr,u,⟨c,rfl,q5⟩,q4⟩
      obtain⟨h1,h2⟩:=aoff_get hx;rcases hI.env0 t x h1 with⟨i,q',e1,e2,_⟩|⟨v',h3,h4⟩
      ·have:=writes_no e2 (l:=ops.toList) (by grind)
       grind
      ·exact⟨v',h3,h4.mono q1 q2.le⟩
     ·refine .inl ⟨q,hqs,?_,?_⟩
      ·simp_all
      simp_all[Bool.and_eq_true,Bool.or_eq_true,hangs]
    ·simp_all
    ·unfold cnt;exact Nat.le_trans (List.countP_le_length) (by simp)
   ·split at hx
    ·rename_i hok;cases hx;obtain⟨q,s1,ρs,sts,hr,o0,t0,hq1,hq2,hq3,hq4,hq5⟩:=drawPan_run hrun;have hqs:q<ops.size:=by grind
     obtain⟨hst,⟨hpv,hpc,hpe⟩,I,hI1,hI2,hI3⟩:statOk2 ops=true∧(pur 8 v=true∧(wipe (actL tr) 0 s.st).all (soIn fun i=>Nat.blt i (wipe (actL tr) 0 s.st).length)=true∧s.env.all (fun p=>inIds (fun i=>Nat.blt i (wipe (actL tr) 0 s.st).length) 8 p.2)=true)∧PanP C e ops (panEnvs C e ops (clos [] ops.toList) ops.toList 0 s).2 (panEnvs C e ops (clos [] ops.toList) ops.toList 0 s).1 v s.st (wipe (actL tr) 0 s.st):=by
      unfold panOk3 at hok;exact @of_decide_eq_true _ (_) hok
     obtain⟨hp1,hp2⟩:=panEnvs_at (cl:=clos [] ops.toList) (i:=0) (q:=q) (oq:=o0) hr (fun k=>rfl) hq1 hq5
     rw[hp1,Nat.zero_add] at hI3;have hI0:=DInv.start (n:=n) (D:=D) hr (Mem.le.refl m) (Ext.refl s.st φ) hs h hn hD;refine wpIn_region_any hmix (any_FF hnd Post.in (ord_main (Z:=fun k=>Nat.ble q k&&(Nat.beq k q||hangs (clos [] ops.toList) (0+q) (0+k))) he hr.chn hst (fun j o ho hz=>?_) hdsts hI2 (fun A st m φ μ a w hI hx hZA hall=>?_) (fun j o hz ho=>?_) _ _ s.st m φ μ a _ (hI0.re hr.s0.symm (Nat.zero_le _)) ?_ (fun i hz hi=>?_) ?_))
     ·obtain⟨v,d,h1,h2,h3⟩:=(hp2 j o (by simpa using ho)).1 hz
      exact⟨v,d,_,_,h1,h2,h3⟩
     ·have e1:Nat.ble q q=true:=Nat.ble_eq_true_of_le (Nat.le_refl q);have:=hZA q (by simp[e1]) hqs
      grind
     ·by_cases hjq:j=q
      ·subst hjq;have:o0=o:=by
        grind
       subst this;refine .inr fun K st' hK hrd=>?_
       have hw:=(hp2 j o0 hq1).2 hz;obtain⟨sq,hsq,hwk⟩:=hI3 K st' hK _ _ _ _ hw hrd;refine⟨v,sq,hsq,fun A m1 φ1 μ1 a1 w1 m' φ' μ' c u w' hI q1 q2 q3 q4 q5=>?_⟩
       have hg:=hI.good.back q3.good;obtain⟨φ2,μ2,g1,g2,rfl⟩:=wipe_ok (T:=actL tr) (st0:=s.st) (φ0:=φ) (fun id hid=>hs.dom id hid) (hI.ext.trans q2) ⟨hg.drop (List.sublist_append_left _ _),q3.sto,q3.dom⟩ hwk hpc
       refine⟨m',_,μ2,hm.trans (hI.mem.trans q1),hxt.trans g1,g2,fun t x hx=>?_,hI.tsz,hI.dfr,u,⟨c,rfl,q5⟩,(R.pure 8 hpv q4).mono (Mem.le.refl _) (Le.none _)⟩
       obtain⟨h1,h2⟩:=aoff_get hx;rcases hI.env0 t x h1 with⟨i,q',e1,e2,_⟩|⟨v',h3,h4⟩
       ·have:=writes_no e2 (l:=ops.toList) (by grind)
        grind
       ·obtain⟨p,hp,rfl⟩:=aget_mem h1;exact⟨v',h3,R.only _ 8 (List.all_eq_true.1 hpe p hp) (h4.mono q1 q2.le)⟩
      ·refine .inl ⟨q,hqs,?_,?_⟩
       ·simp_all
       simp_all[Bool.and_eq_true,Bool.or_eq_true,hangs]
     ·have:doneK ops (panEnvs C e ops (clos [] ops.toList) ops.toList 0 s).2 (Array.replicate ops.size false)=[]:=by
       unfold doneK;rw[List.filter_eq_nil_iff]
       intro i hi;have:=List.mem_range.1 hi;simp[this]
      rw[this];exact hI1
     ·simp_all
     ·unfold cnt;exact Nat.le_trans (List.countP_le_length) (by simp)
    ·cases hx
  ·cases hx
end
end Go.Am

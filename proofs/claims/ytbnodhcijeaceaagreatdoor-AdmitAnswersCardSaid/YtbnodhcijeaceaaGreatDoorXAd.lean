/- A region that draws its order, in the plain machine: the model does the same in whatever order. Plain lemmas, no statement of the seat. -/
import Derived.Test.YtbnodhcijeaceaaGreatDoorXAh
set_option linter.all false
namespace Go.Am
open Go Go.Hb
open Go.Gw (tk tf tz tsl tar tpl isAggD looks deps statOk stat_one ready_ne cnt cnt_set getD_true_of getD_set)
def jb9{ls:List Nat}:∀{ρ:AEnv}{t:Nat}{x:PV},aget (j1n ls ρ) t=some x→aget ρ t=some x∧t∈ls
 |[],t,x,h=>by simp[j1n,aget] at h
 |(k,v)::r,t,x,h=>by
  simp only[j1n] at h;split at h
  ·rename_i hk;simp only[aget] at h⊢;split at h
   ·simp_all
   ·rename_i hb;exact jb9 h
  ·rename_i hk;obtain⟨h1,h2⟩:=jb9 h;simp only[aget];split
   ·simp_all
   ·exact⟨h1,h2⟩
section
variable{D:List Deferred}{P:Program}{E:Entry}{m:Mem}{φ:Ph}{μ:Own}{st:Sto}{ρ:AEnv}{a:Act}{w:World}{C:Cfg}{e:Ev}{n:Nat}
structure Run (C:Cfg) (e:Ev) (ops:Array Oper) (Z:Nat→Bool) (l:List Oper) (s s':AS) (tr:List Tr) (ρs:Nat→AEnv) (sts:Nat→Sto):Prop where
 len:tr.length=l.length
 e0:ρs 0=s.env
 e1:ρs l.length=s'.env
 s0:sts 0=s.st
 s1:sts l.length=s'.st
 at_:∀(i:Nat) o t,l[i]?=some o→tr[i]?=some t→(t.b=sts i∧t.tch=touch (j1n (looks ops o) (ρs i)) (sts i) o.op)∧t.f=sts (i+1)∧((Z i=false∧∃v,j0U C e ops o (j1n (looks ops o) (ρs i)) (sts i)=some (v,sts (i+1),t.d)∧ρs (i+1)=aput o.dst v (ρs i))∨(Z i=true∧sts (i+1)=sts i∧ρs (i+1)=ρs i∧t.d≠.al))
variable{s s':AS}{A:Array Bool}{ops:Array Oper}{tr:List Tr}{m0:Mem}{i id j k t:Nat}{ρs:Nat→AEnv}{Z:Nat→Bool}{sts:Nat→Sto}{o:Oper}{v:PV}{φ0:Ph}{st' st0:Sto}{u:Value}
def Run.nil:Run C e ops Z [] s s [] (fun _=>s.env) (fun _=>s.st):=
 ⟨rfl,rfl,rfl,rfl,rfl,fun i o t ho=>by simp at ho⟩
def Run.cons{l:List Oper}{s1:AS}{t0:Tr}(hA:Run C e ops (fun i=>Z (i+1)) l s1 s' tr ρs sts)(hb:t0.b=s.st)(ht:t0.tch=touch (j1n (looks ops o) s.env) s.st o.op)(hf:t0.f=s1.st)
  (h:(Z 0=false∧∃v,j0U C e ops o (j1n (looks ops o) s.env) s.st=some (v,s1.st,t0.d)∧s1.env=aput o.dst v s.env)∨(Z 0=true∧s1.st=s.st∧s1.env=s.env∧t0.d≠.al)):∃ρs sts,Run C e ops Z (o::l) s s' (t0::tr) ρs sts:=by
 refine⟨fun i=>match i with
  |0=>s.env
  |i+1=>ρs i,fun i=>match i with
  |0=>s.st
  |i+1=>sts i,by simp[hA.len],rfl,hA.e1,rfl,hA.s1,fun i o' t ho qA=>?_⟩
 cases i with
 |zero=>
  simp only[DJ,AD] at ho qA;subst ho;subst qA;refine⟨⟨hb,ht⟩,hf.trans hA.s0.symm,?_⟩;simp only[hA.s0,hA.e0];exact h
 |succ i=>exact hA.at_ i o' t (by simpa using ho) (by simpa using qA)
def jbm{ops:Array Oper}:∀{l:List Oper}{s s':AS}{tr:List Tr},j1U C e ops l s=some (s',tr)→∃ρs sts,Run C e ops (fun _=>false) l s s' tr ρs sts
 |[],s,s',tr,h=>by
  simp only[j1U,AD,BB] at h;obtain⟨rfl,rfl⟩:=h;exact⟨_,_,Run.nil⟩
 |o::l,s,s',tr,h=>by
  simp only[j1U] at h;split at h
  ·rename_i v st1 d hd;split at h
   ·rename_i s2 l2 hr;cases h;obtain⟨ρs,sts,hA⟩:=jbm hr;exact Run.cons (Z:=fun _=>false) hA rfl rfl rfl (.inl ⟨rfl,v,hd,rfl⟩)
   ·cases h
  ·cases h
def jag{ops:Array Oper}{cl:List (List Nat)}{q:Nat}:∀{l:List Oper}{i:Nat}{s s':AS}{tr:List Tr},j1O C e ops cl q l i s=some (s',tr)→∃ρs sts,Run C e ops (fun k=>hangs cl q (i+k)) l s s' tr ρs sts
 |[],i,s,s',tr,h=>by
  simp only[j1O,AD,BB] at h;obtain⟨rfl,rfl⟩:=h;exact⟨_,_,Run.nil⟩
 |o::l,i,s,s',tr,h=>by
  simp only[j1O] at h;have sh:∀{s2:AS}{l2:List Tr}{s1:AS},j1O C e ops cl q l (i+1) s1=some (s2,l2)→∃ρs sts,Run C e ops (fun k=>hangs cl q (i+(k+1))) l s1 s2 l2 ρs sts:=fun hr=>by
   obtain⟨ρs,sts,hA⟩:=jag hr
   grind
  split at h
  ·rename_i hh;split at h
   ·rename_i s2 l2 hr;cases h;obtain⟨ρs,sts,hA⟩:=sh hr;exact Run.cons (Z:=fun k=>hangs cl q (i+k)) hA rfl rfl rfl (.inr ⟨by simpa using hh,rfl,rfl,by simp⟩)
   ·cases h
  ·rename_i hh;split at h
   ·rename_i v st1 d hd;split at h
    ·rename_i s2 l2 hr;cases h;obtain⟨ρs,sts,hA⟩:=sh hr;exact Run.cons (Z:=fun k=>hangs cl q (i+k)) hA rfl rfl rfl (.inl ⟨by simpa using hh,v,hd,rfl⟩)
    ·cases h
   ·cases h
def jbl{ops:Array Oper}{cl:List (List Nat)}:∀{l:List Oper}{i:Nat}{s:AS}{v:PV}{st:Sto}{tr:List Tr},j2B C e ops cl l i s=some (v,st,tr) →
  ∃q s' ρs sts,Run C e ops (fun k=>Nat.ble q k&&(Nat.beq k q||hangs cl (i+q) (i+k))) l s s' tr ρs sts∧∃o t,l[q]?=some o∧tr[q]?=some t∧t.d=.a∧j9R C e ops o (j1n (looks ops o) (ρs q)) (sts q)=some (v,st)
 |[],i,s,v,st,tr,h=>by simp[j2B] at h
 |o::l,i,s,v,st,tr,h=>by
  simp only[j2B] at h;split at h
  ·rename_i v1 st1 d hd;split at h
   ·rename_i x st' l2 hr;cases h;obtain⟨q,s',ρs,sts,hA,o',t',h1,h2,h3,h4⟩:=jbl hr;have hZ:(fun k=>Nat.ble q k&&(Nat.beq k q||hangs cl (i+1+q) (i+1+k)))=fun k=>(fun k=>Nat.ble (q+1) k&&(Nat.beq k (q+1)||hangs cl (i+(q+1)) (i+k))) (k+1):=by
     funext k
     have e1:Nat.ble (q+1) (k+1)=Nat.ble q k:=rfl;have e2:Nat.beq (k+1) (q+1)=Nat.beq k q:=rfl
     grind
    rw[hZ] at hA;have qA:=hA;refine⟨q+1,s',fun i=>match i with
     |0=>s.env
     |i+1=>ρs i,fun i=>match i with
     |0=>s.st
     |i+1=>sts i,⟨by simp[hA.len],rfl,hA.e1,rfl,hA.s1,fun i' o1 t1 ho ht=>?_⟩,o',t',by simpa using h1,by simpa using h2,h3,h4⟩
    cases i' with
    |zero=>
     simp only[DJ,AD] at ho ht;subst ho;subst ht;refine⟨⟨rfl,rfl⟩,hA.s0.symm,.inl ⟨rfl,v1,?_,hA.e0⟩⟩;simp only[hA.s0];exact hd
    |succ i'=>exact hA.at_ i' o1 t1 (by simpa using ho) (by simpa using ht)
   ·cases h
  ·split at h
   ·rename_i v1 st1 hp;split at h
    ·rename_i s2 l2 hr;cases h;obtain⟨ρs,sts,hA⟩:=jag hr;have hZ:(fun k=>hangs cl i (i+1+k))=fun k=>(fun k=>Nat.ble 0 k&&(Nat.beq k 0||hangs cl (i+0) (i+k))) (k+1):=by
      funext k
      have e1:Nat.ble 0 (k+1)=true:=rfl;have e2:Nat.beq (k+1) 0=false:=rfl
      grind
     rw[hZ] at hA;refine⟨0,s2,fun i=>match i with
      |0=>s.env
      |i+1=>ρs i,fun i=>match i with
      |0=>s.st
      |i+1=>sts i,⟨by simp[hA.len],rfl,hA.e1,rfl,hA.s1,fun i' o1 t1 ho ht=>?_⟩,o,_,rfl,rfl,rfl,hp⟩
     cases i' with
     |zero=>
      simp only[DJ,AD] at ho ht;subst ho;subst ht;exact⟨⟨rfl,rfl⟩,hA.s0.symm,.inr ⟨rfl,hA.s0,hA.e0,by simp⟩⟩
     |succ i'=>exact hA.at_ i' o1 t1 (by simpa using ho) (by simpa using ht)
    ·cases h
   ·cases h
def jmR(ops:Array Oper)(o:Oper):actK ops o=.a∨actK ops o=.al:=by
 grind [actK]
def jbk{st:Sto}{d:DK}(h:j0U C e ops o ρ st=some (v,st',d))(hd:d≠.a)(hA:d≠.al):st'=st:=by
 unfold j0U at h;split at h
 ·cases h;rfl
 ·split at h
  ·cases h;rfl
  ·split at h
   ·grind
   ·split at h
    ·cases h;rfl
    ·split at h
     ·cases h;rcases jmR ops o with e|e
      ·exact absurd e hd
      ·exact absurd e hA
     ·grind
     ·cases h
 ·cases h
def jbj{st:Sto}(h:j0U C e ops o ρ st=some (v,st',.al)):∃T t cs,o.op=.alloc T∧o.dst=some t∧jpv ops t=true∧jcC C.P T=some cs∧v=.bp st.length 0∧st'=st++[.box T cs]∧j6D ops ρ o.guard=some true:=by
 unfold j0U at h;split at h
 ·cases h
 ·rename_i hg;split at h
  ·cases h
  ·split at h
   ·grind
   ·split at h
    ·cases h
    grind [Option.some.injEq,Prod.mk.injEq,actK,aS,jh7]
 ·cases h
def jlf{st:Sto}(h:j0U C e ops o ρ st=some (v,st',.a))(hi:i<st.length)(ht:(touch ρ st o.op).elem i=false):st'[i]?=st[i]?:=by
 unfold j0U at h;split at h
 ·cases h
 ·split at h
  ·cases h
  ·split at h
   ·grind
   ·split at h
    ·cases h
    ·split at h
     ·rename_i h1;simp only[AD,BB] at h;obtain⟨rfl,rfl,_⟩:=h;exact jhi h1 hi ht
     ·rename_i h1;cases h;exact jhi h1 hi ht
     ·cases h
 ·cases h
theorem Run.off(hr:Run C e ops Z ops.toList s s' tr ρs sts){t:Tr}(ht:tr[i]?=some t)(ha:t.d=.a)(h:jr0 t id=true):t.b[id]?=t.f[id]?:=by
 have hi:i<ops.toList.length:=by rw[←hr.len];grind
 obtain⟨⟨h1,h2⟩,h3,⟨_,v,h4,_⟩|⟨_,h4,_,_⟩⟩:=hr.at_ i _ t (AA hi) ht
 rotate_left
 ·rw[h1,h3,h4]
 unfold jr0 at h;rw[AB,h2] at h;rw[ha] at h4;have hA:id<t.b.length:=by simp_all
 rw[h1] at hA⊢;rw[h3];exact(jlf h4 hA (by simpa using h.2)).symm
def j7K{α β:Type}{f g:α→List β}:∀{l:List α},(∀x∈l,f x=g x)→l.flatMap f=l.flatMap g
 |[],_=>rfl
 |x::l,h=>by
  rw[EA,EA,h x BG,j7K fun y hy=>h y (BE _ hy)]
def jbf:∀{l:List Oper}{acc:List (List Nat)}{i:Nat},i<acc.length→(clos acc l).getD i []=acc.getD i []
 |[],acc,i,_=>rfl
 |o::l,acc,i,h=>by
  simp only[clos];rw[jbf (by simp;omega),AQ,AW h,AQ]
def jhP:∀{l:List Oper}{acc:List (List Nat)}{j:Nat}{o:Oper},l[j]?=some o→(∀x∈deps o,x<acc.length+j)→(clos acc l).getD (acc.length+j) []=deps o++(deps o).flatMap fun i=>(clos acc l).getD i []
 |[],acc,j,o,h,_=>by simp at h
 |q::l,acc,0,o,h,hd=>by
  simp at h;subst h;simp only[clos,DB] at hd⊢;rw[jbf (by simp)]
  rw[AQ,BK (AU _)];simp only[Nat.sub_self,DJ,CF];congr 1;refine j7K fun i hi=>?_
  have hA:=hd i hi;rw[jbf (by simp;omega),AQ,AQ,AW hA]
 |q::l,acc,j+1,o,h,hd=>by
  simp only[clos];have:=jhP (l:=l) (acc:=acc++[deps q++(deps q).flatMap fun i=>acc.getD i []]) (j:=j) (o:=o) (by simpa using h) (fun x hx=>by grind)
  grind
def j3Z{α:Type}{f:Nat→α→Bool}:∀{l:List α}{k i:Nat}{x:α},j7R f k l=true→l[i]?=some x→f (k+i) x=true
 |[],k,i,x,_,h=>by simp at h
 |y::l,k,i,x,h,hx=>by
  simp only[j7R,AB] at h;cases i with
  |zero=>grind
  |succ i=>
   have:=j3Z (k:=k+1) h.2 (show l[i]?=some x by simpa using hx)
   grind
def j2b(h:j3L ops=true)(ho:ops[i]?=some o):(∀x∈deps o,x<i)∧∀k o' d,ops[k]?=some o'→o'.dst=some d →
  (k=i→d∉looks ops o)∧(k≠i→(d∈looks ops o→k∈deps o∨i∈(clos [] ops.toList).getD k [])∧o.dst≠some d):=by
 unfold j3L at h;have h1:=j3Z h (i:=i) (x:=o) (by simpa using ho)
 simp only[AP,AB] at h1;refine⟨fun x hx=>by simp_all,fun k o' d hk hd=>?_⟩
 have h2:=j3Z h1.2 (i:=k) (x:=o') (by simpa using hk)
 simp only[AP,jhf,hd] at h2;refine⟨fun e=>?_,fun e=>?_⟩
 ·grind
 ·have:Nat.beq k i=false:=by
   cases hb:Nat.beq k i with
   |false=>rfl
   |true=>simp_all
  grind
def jpe(qA:j3L ops=true)(hA:A.size=ops.size)(hi:i<ops.size)(hf:A.getD i true=false):Region.ready .any ops A≠[]:=by
 induction i using Nat.strongRecOn with
 |_ i ih=>
  obtain⟨o,ho⟩:∃o,ops[i]?=some o:=⟨_,CD hi⟩
  by_cases hd:∀x∈deps o,A.getD x false=true
  ·intro e;have:i∈Region.ready .any ops A:=by
    unfold Region.ready;rw[EL];refine⟨ED.2 hi,?_⟩;simp only[hf,DV,CG,ho,AY,CF]
    grind [deps]
   grind
  ·simp only[Classical.not_forall] at hd;obtain⟨x,hx,gA⟩:=hd;have wA:=(j2b qA ho).1 x hx
   grind
def jnp(hA:j3L ops=true):∀(j:Nat) o,ops[j]?=some o→∀i∈(clos [] ops.toList).getD j [],i<j:=by
 intro j
 induction j using Nat.strongRecOn with
 |_ j ih=>
  intro o ho i hi;have qA:=(j2b hA ho).1;have:=jhP (l:=ops.toList) (acc:=[]) (j:=j) (o:=o) (by simpa using ho) (fun x hx=>by simpa using qA x hx)
  grind
def jfZ(hA:j3L ops=true)(hd:∀(i:Nat) o,ops[i]?=some o→A.getD i true=true→∀x∈deps o,A.getD x true=true):∀(j:Nat) o,ops[j]?=some o→(∀x∈deps o,A.getD x true=true)→∀i∈(clos [] ops.toList).getD j [],A.getD i true=true:=by
 intro j
 induction j using Nat.strongRecOn with
 |_ j ih=>
  intro o ho gA i hi;have qA:=(j2b hA ho).1;have:=jhP (l:=ops.toList) (acc:=[]) (j:=j) (o:=o) (by simpa using ho) (fun x hx=>by simpa using qA x hx)
  grind
def jdi{α:Type}{f:α→α→Bool}(hf:∀x y,f x y=true→x=y):∀{a b:List α},eqL f a b=true→a=b
 |[],[],_=>rfl
 |x::r,y::s,h=>by
  simp only[eqL,AB] at h;rw[hf x y h.1,jdi hf h.2]
 |[],_::_,h=>by simp[eqL] at h
 |_::_,[],h=>by simp[eqL] at h
def juc{v:Value}(h:eqV u v=true):u=v:=by
 unfold eqV at h
 grind
def jbs:∀(n:Nat) (x y:PV),eqPV n x y=true→x=y
 |0,_,_,h=>by simp[eqPV] at h
 |n+1,x,y,h=>by
  simp only[eqPV] at h;split at h
  ·rw[juc h]
  ·rw[jdi (jbs n) h]
  ·simp only[AB,beq_iff_eq] at h;obtain⟨⟨rfl,h2⟩,h3⟩:=h;rw[AH h2,jdi (jbs n) h3]
  ·simp_all
  ·simp_all
  ·cases h
theorem jnN{x y:Sto}(h:eqAt id x y=true):x[id]?=y[id]?:=by
 unfold eqAt at h;split at h
 ·rename_i p q hp hq;rw[hp,hq];congr 1;unfold eqSO at h;split at h
  ·simp only[AB] at h;rw[AH h.1,jdi (jbs 6) h.2]
  ·rw[jdi (jbs 6) h]
  ·simp only[AB,beq_iff_eq] at h;obtain⟨⟨⟨rfl,h2⟩,h3⟩,h4⟩:=h;rw[AH h2,AH h3,jdi (jbs 6) h4]
  ·cases h
 ·cases h
theorem juU{P:Program}{st:Sto}{op:Op}(h:aK P ρ st op=some v)(hid:j6k ρ op=some id)(he:st'[id]?=st[id]?):aK P ρ st' op=some v:=by
 unfold aK at h⊢;unfold j6k at hid;split at h
 ·grind [jkl]
 ·grind [jgF]
 ·grind [rowLen,jkb]
 ·grind
 ·rename_i T x i ok;simp only at hid⊢;split at hid
  ·rename_i id' hx;cases hid;rw[hx] at h⊢;split at h
   ·rename_i px pi hp hi;cases hp;unfold jk6 at h ⊢
    grind
   ·cases h
  ·cases hid
 ·grind
 ·cases h
def jqd{P:Program}{dst:Option Nat}{ty:TypeId}{pos:String}{after:Array Edge}{gd:Option (Nat×Bool)}{g:Operand}{xs:Array Operand}{ts:Array TypeId}{f:FuncId}{as vs bs:List PV}(h:EnvR m φ ρ a)(hg:aval ρ g=some (.fn f as bs))(qA:mapO (aval ρ) xs.toList=some vs)(hA:Gw.callable P f=true):
  ∃us,Rl m φ (as++vs++bs) us∧(execOp a.eval ⟨dst,.call ⟨.value g,xs,ts⟩,ty,pos,after,gd⟩).run P w=.ok (.enter f us.toArray) w:=by
 have rg:=j0j h hg;have rv:=jbc h qA;generalize gB:a.eval g=eg at rg;cases rg with
 | @fn _ _ _ _ us ws hl wA hi hB=>
  refine⟨us++xs.toList.map a.eval++ws,(Rl.append ⟨hl,hi⟩ rv).append ⟨wA,hB⟩,?_⟩;unfold Gw.callable at hA;split at hA
  ·rename_i fn qB;rw[AB] at hA;cases hb:fn.body with
   |none=>simp[hb] at hA
   |some body=>
    have gA:¬fn.name = "runtime.NumGoroutine" :=by simpa using hA.2
    have ex:xs.map a.eval=(xs.toList.map a.eval).toArray:=by apply Array.ext';simp
    simp[execOp,resolve,Deferred.ofValue,gB,invoke,callFunc,qB,gA,hb,ex]
  ·cases hA
def jm2{next:Act→World→Prop}{Q:Exit→Act→World→Prop}(he:CallOk C.P e.call)(hs:Sit E m φ μ st w)(h:EnvR m φ ρ a)(hx:j1o C e ρ o.op=some v)
  (hn:∀u w' m' φ' μ',Mem.le m m'→Ext st st φ φ'→Sit E m' φ' μ' st w'→R m' φ' v u→next (a.put o.dst u) w'):o.wp C.P a w next Q:=by
 obtain⟨dst,op,ty,pos,after,gd⟩:=o;simp only at hx hn;unfold j1o at hx;split at hx
 ·rename_i T len parts;split at hx
  ·rename_i b z xs st1 hb;cases hx;have hC:j2C C.P (C.lit T) ρ st T len parts=some (.val (.sl b z xs) st):=by
    unfold j2C at hb⊢;split at hb
    ·split at hb
     ·split at hb
      ·split at hb
       ·split at hb
        ·grind
        ·cases hb
       ·cases hb
      ·cases hb
     ·cases hb
    ·cases hb
   obtain⟨u,w',m',φ',μ',h1,h2,h3,h4,h5⟩:=j6q (P:=C.P) (dst:=dst) (ty:=ty) (pos:=pos) (after:=after) (gd:=gd) hs h hC;unfold Oper.wp;rw[h1];exact hn u w' m' φ' μ' h2 h3 h4 h5
  ·cases hx
 ·rename_i g xs ts;split at hx
  ·rename_i f as bs vs hg qB;split at hx
   ·rename_i wA;rw[AB] at wA;split at hx
    ·rename_i rs st1 hc;split at hx
     ·rename_i gB;cases hx;obtain⟨us,hA,gA⟩:=jqd (dst:=dst) (ty:=ty) (pos:=pos) (after:=after) (gd:=gd) (w:=w) (ts:=ts) h hg qB wA.1;have hB:Hb.Good E w m ([]++μ):=hs.good;have qA:Sit ⟨w,m,feetOf []⟩ m noPh [] [] w:=⟨hB.start,rfl,fun _ _=>rfl⟩
      unfold Oper.wp;rw[gA];refine(he f _ [] (.ret rs) st1 hc w m noPh [] us qA (hA.pure wA.2)).mono fun en w' ⟨m',φ',μ',h1,h2,h3⟩=>?_
      have wB:=hB.back h2.good;have h4:=(jer (r:=.ret rs) gB h3).mono (Mem.le.refl _) (Le.none φ);obtain⟨us',rfl,q5⟩:=h4;exact hn _ w' m' φ μ h2.good.mem (Ext.refl _ _) ⟨wB.drop (FA _ _),hs.sto.mono h2.good.mem (Le.refl φ) (fun _ _ _=>rfl),hs.dom⟩ (jpj q5)
     ·cases hx
    ·cases hx
   ·cases hx
  ·cases hx
 ·cases hx
def jfL{d:Nat}{ρ:AEnv}:aget (aput (some d) v ρ) d=some v:=by simp[aput,aget]
def Run.fin{ops:Array Oper}{s s':AS}{tr:List Tr}{ρs:Nat→AEnv}{sts:Nat→Sto}{Z:Nat→Bool}(hr:Run C e ops Z ops.toList s s' tr ρs sts){t:Nat}:∀{k j:Nat},j+k=ops.size→(∀i o,j≤i→ops[i]?=some o→o.dst≠some t)→aget s'.env t=aget (ρs j) t
 |0,j,qA,_=>by
  have:ρs j=s'.env:=by rw[←hr.e1];simp[←qA]
  rw[this]
 |k+1,j,qA,hA=>by
  rw[Run.fin hr (k:=k) (j:=j+1) (by omega) (fun i o hi=>hA i o (by omega))]
  have hj:j<ops.size:=by omega
  have ho:ops.toList[j]?=some ops[j]:=by simp[hj]
  have gA:tr[j]?=some (tr[j]'(by rw[hr.len];simpa using hj)):=AA _
  obtain⟨_,_,⟨_,v,_,h2⟩|⟨_,_,h2,_⟩⟩:=hr.at_ j _ _ ho gA
  rotate_left
  ·rw[h2]
  rw[h2];have wA:=hA j ops[j] (AU _) (CD hj);cases hd:ops[j].dst with
  |none=>rfl
  |some d=>
   have hB:d≠t:=fun e'=>wA (by rw[hd,e'])
   have hb:Nat.beq d t=false:=by
    cases hb:Nat.beq d t with
    |false=>rfl
    |true=>simp_all
   simp only[aput,aget,hb];exact j8o hB
def Run.between{ops:Array Oper}{s s':AS}{tr:List Tr}{ρs:Nat→AEnv}{sts:Nat→Sto}{Z:Nat→Bool}(hr:Run C e ops Z ops.toList s s' tr ρs sts){α:Type}{f:Sto→α}:∀{k j:Nat},j+k≤ops.size→(∀i t,j≤i→i<j+k→tr[i]?=some t→(t.d=.a∨t.d=.al)→f t.b=f t.f)→f (sts (j+k))=f (sts j)
 |0,j,_,_=>rfl
 |k+1,j,wA,qA=>by
  rw[←Run.between hr (f:=f) (k:=k) (j:=j) (by omega) (fun i t h1 h2=>qA i t h1 (by omega))]
  have hj:j+k<ops.size:=by omega
  have ho:ops.toList[j+k]?=some ops[j+k]:=by simp[hj]
  have hA:tr[j+k]?=some (tr[j+k]'(by rw[hr.len];simpa using hj)):=AA _
  obtain⟨⟨h1,_⟩,h2,⟨_,v,h3,_⟩|⟨_,h3,_,_⟩⟩:=hr.at_ (j+k) _ _ ho hA
  rotate_left
  ·grind
  rw[←DY,←h2,←h1]
  by_cases hd:(tr[j+k]'(by grind)).d=.a
  ·grind
  ·by_cases gA:(tr[j+k]'(by grind)).d=.al
   ·grind
   ·rw[h1,h2,jbk h3 hd gA]
structure Ent where
 i:Nat
 b:Nat
 T:TypeId
 cs:List PV
 vs:List Value
def jgi(X:List Ent):Own:=X.map fun x=>bx x.b x.T x.vs
structure EntOk (C:Cfg) (ops:Array Oper) (tr:List Tr) (A:Array Bool) (a:Act) (x:Ent):Prop where
 op:∃o t,ops[x.i]?=some o∧o.op=.alloc x.T∧o.dst=some t∧jpv ops t=true∧a.tmps[t]?=some (.pointer (some ⟨x.b,0,none⟩))
 zero:jcC C.P x.T=some x.cs
 vals:∀(m:Mem) (φ:Ph),Rl m φ x.cs x.vs
 cel:x.cs.all cell=true
 did:A.getD x.i true=true
 new:∃t,tr[x.i]?=some t∧t.d=.al
structure DInv (C:Cfg) (D:List Deferred) (E:Entry) (n:Nat) (ops:Array Oper) (m0:Mem) (φ0:Ph) (st0:Sto) (s s':AS) (tr:List Tr) (sts:Nat→Sto) (A:Array Bool) (k:Nat) (m:Mem) (φ:Ph) (μ:Own) (X:List Ent) (a:Act) (w:World):Prop where
 mem:Mem.le m0 m
 ext:Ext st0 (sts k) φ0 φ
 good:Hb.Good E w m (μ++jgi X)
 sto:SR m φ 0 (sts k) μ
 dom:∀id,(sts k).length≤id→φ id=none
 size:A.size=ops.size
 tsz:a.tmps.size=n
 dfr:a.defers=D
 clo:∀(i:Nat) o,ops[i]?=some o→A.getD i true=true→∀x∈deps o,A.getD x true=true
 le:k≤ops.size
 done:∀(i:Nat) t,tr[i]?=some t→(t.d=.a∨t.d=.al)→i<k→A.getD i true=true
 left:∀(i:Nat) t,tr[i]?=some t→t.d=.a→k≤i→A.getD i true=false
 ents:∀x∈X,EntOk C ops tr A a x∧k≤x.i
 all:∀(i:Nat) t,tr[i]?=some t→t.d=.al→k≤i→A.getD i true=true→∃x∈X,x.i=i
 env0:∀t x,aget s.env t=some x→(∃(i:Nat) (o:Oper),ops[i]?=some o∧o.dst=some t∧A.getD i true=true)∨∃v,a.tmps[t]?=some v∧R m φ x v
 env:∀t x,aget s'.env t=some x→(∃(i:Nat) (o:Oper),ops[i]?=some o∧o.dst=some t∧A.getD i true=false)∨(∃y∈X,∃o,ops[y.i]?=some o∧o.dst=some t)∨∃v,a.tmps[t]?=some v∧R m φ x v
variable{X:List Ent}
def DInv.sit(h:DInv C D E n ops m0 φ0 st0 s s' tr sts A k m φ μ X a w):Sit ⟨w,m,feetOf μ⟩ m φ μ (sts k) w:=⟨h.good.start,h.sto,h.dom⟩
def jiE{v:Value}(h:o.dst≠some t)(hu:a.tmps[t]?=some u):(a.put o.dst v).tmps[t]?=some u:=by
 cases hA:o.dst with
 |none=>exact hu
 |some d=>
  simp_all[Act.put,BS]
theorem DInv.put{k':Nat}{m':Mem}{φ':Ph}{μ':Own}{w':World}{x:PV}{v:Value}{X':List Ent}
  (wB:j3L ops=true) (hr:Run C e ops Z ops.toList s s' tr ρs sts) (h:DInv C D E n ops m0 φ0 st0 s s' tr sts A k m φ μ X a w) (ho:ops[j]?=some o) (wA:jaw n o.dst=true) (hj:j<ops.size) (hf:A.getD j true=false) (gB:∀x∈deps o,A.getD x false=true)
  (hm:Mem.le m m') (hx:Ext (sts k) (sts k') φ φ') (hg:Hb.Good E w' m' (μ'++jgi X')) (hs:SR m' φ' 0 (sts k') μ') (qB:∀id,(sts k').length≤id→φ' id=none) (hk:k'≤ops.size) (hC:∀(i:Nat) t,tr[i]?=some t→(t.d=.a∨t.d=.al)→i<k'→i=j∨A.getD i true=true) (gA:∀(i:Nat) t,tr[i]?=some t→t.d=.a→k'≤i→i≠j∧A.getD i true=false)
  (hX:∀y∈X,y∈X') (gD:∀y∈X',(y∈X∨(y.i=j∧EntOk C ops tr (A.setIfInBounds j true) (a.put o.dst v) y))∧k'≤y.i) (qD:∀t,tr[j]?=some t→t.d=.al→k'≤j→∃y∈X',y.i=j) (kE:k≤k')
  (gC:ρs (j+1)=aput o.dst x (ρs j)) (hv:(∃y∈X',y.i=j)∨R m' φ' x v):DInv C D E n ops m0 φ0 st0 s s' tr sts (A.setIfInBounds j true) k' m' φ' μ' X' (a.put o.dst v) w':=by
 have hB:∀{i:Nat},A.getD i true=true→(A.setIfInBounds j true).getD i true=true:=fun e'=>by
  rw[getD_set h.size hj]
  grind
 refine⟨h.mem.trans hm,h.ext.trans hx,hg,hs,qB,by simp[h.size],by rw[j8W];exact h.tsz,by rw[put_defers];exact h.dfr,Gw.clo_set h.clo h.size hj ho gB,hk,fun i t ht ha hi=>?_,fun i t ht ha hi=>?_,fun y hy=>?_,fun i t ht ha hi hA=>?_,fun t y hy=>?_,fun t y hy=>?_⟩
 ·rw[getD_set h.size hj]
  grind
 ·obtain⟨h1,h2⟩:=gA i t ht ha hi;rw[getD_set h.size hj,if_neg h1];exact h2
 ·obtain⟨qA,qC⟩:=gD y hy;refine⟨?_,qC⟩;rcases qA with qA|⟨_,qA⟩
  ·obtain⟨⟨⟨q,t,e1,e2,e3,e4,e5⟩,e6,e7,e8,e9,e10⟩,_⟩:=h.ents y qA;refine⟨⟨q,t,e1,e2,e3,e4,jiE (fun e'=>?_) e5⟩,e6,e7,e8,hB e9,e10⟩
   have wC:y.i≠j:=fun e''=>by grind
   exact((j2b wB ho).2 y.i q t e1 e3).2 wC |>.2 e'
  ·exact qA
 ·by_cases hD:i=j
  ·grind
  ·rw[getD_set h.size hj,if_neg hD] at hA;obtain⟨y,hy,rfl⟩:=h.all i t ht ha (by omega) hA
   grind
 ·by_cases hd:o.dst=some t
  ·exact .inl ⟨j,o,ho,hd,by simp_all⟩
  ·rcases h.env0 t y hy with⟨i,q,h1,h2,h3⟩|⟨u,h1,h2⟩
   ·grind
   ·exact .inr ⟨u,jiE hd h1,h2.mono hm hx.le⟩
 ·by_cases hd:o.dst=some t
  ·rcases hv with⟨y0,hE,wD⟩|hv
   ·grind
   ·refine .inr (.inr ⟨v,?_,?_⟩)
    ·rw[hd] at wA⊢;have:t<a.tmps.size:=by rw[h.tsz];simpa[jaw] using wA
     simp[Act.put,BS,this]
    ·have:=hr.fin (t:=t) (k:=ops.size-(j+1)) (j:=j+1) (by omega) (fun i q hi hq e'=>by
      have:=((j2b wB ho).2 i q t hq e').2 (by omega)
      exact this.2 hd)
     simp_all[jfL]
  ·rcases h.env t y hy with⟨i,q,h1,h2,h3⟩|⟨z,hz,q,h1,h2⟩|⟨u,h1,h2⟩
   ·refine .inl ⟨i,q,h1,h2,?_⟩;rw[getD_set h.size hj,if_neg (fun e'=>?_)]
    ·exact h3
    grind
   ·grind
   ·exact .inr (.inr ⟨u,jiE hd h1,h2.mono hm hx.le⟩)
def DInv.sees
  (hA:j3L ops=true) (hr:Run C e ops Z ops.toList s s' tr ρs sts) (h:DInv C D E n ops m0 φ0 st0 s s' tr sts A k m φ μ X a w) (ho:ops[j]?=some o) (hj:j<ops.size) (gC:∀x∈deps o,A.getD x false=true)
  (hf:A.getD j true=false) (hX:∀y∈X,∀q t,ops[y.i]?=some q→q.dst=some t→t∉looks ops o):EnvR m φ (j1n (looks ops o) (ρs j)) a:=by
 intro t x hx;obtain⟨h1,h2⟩:=jb9 hx;have hs:=j2b hA ho;have hD:=jfZ hA h.clo;have hB:=jnp hA
 by_cases hl:∃(k:Nat) (q:Oper),ops[k]?=some q∧q.dst=some t∧j∈(clos [] ops.toList).getD k []
 ·-- it is read ahead of what is written to it
  obtain⟨k1,q,hk,hq,qB⟩:=hl;have wB:=hB k1 q hk j qB;have wA:∀i,i≤j→aget (ρs i) t=aget s.env t:=fun i=>by
   induction i with
   |zero=>intro _;rw[hr.e0]
   |succ i ih=>
    intro hi;have gA:i<ops.size:=by omega
    obtain⟨_,_,⟨_,v,_,h3⟩|⟨_,_,h3,_⟩⟩:=hr.at_ i ops[i] (tr[i]'(by rw[hr.len];simpa using gA)) (by simp[gA]) (AA _)
    rotate_left
    ·grind
    rw[h3,←ih (by omega)]
    have qA:ops[i].dst≠some t:=((j2b hA (CD gA)).2 k1 q t hk hq).2 (by omega) |>.2
    cases wC:ops[i].dst with
    |none=>rfl
    |some d=>
     have qC:d≠t:=fun e'=>qA (by rw[wC,e'])
     have hb:Nat.beq d t=false:=by
      cases hb:Nat.beq d t with
      |false=>rfl
      |true=>simp_all
     simp only[aput,aget,hb];exact j8o qC
  rw[wA j (AU j)] at h1;rcases h.env0 t x h1 with⟨i,q',e1,e2,e3⟩|hv
  ·exfalso;have hC:i=k1:=by
    rcases Nat.decEq i k1 with qA|he
    ·exact absurd e2 (((j2b hA e1).2 k1 q t hk hq).2 (fun e'=>qA e'.symm)).2
    ·exact he
   subst hC;rw[hk] at e1;cases e1;have:=hD i q hk (h.clo i q hk e3) j qB
   grind
  ·exact hv
 have gB:∀(i:Nat) (q:Oper),ops[i]?=some q→q.dst=some t→i≠j→i∈deps o:=fun i q e1 e2 qD=>by
  grind
 have:=hr.fin (t:=t) (k:=ops.size-j) (j:=j) (by omega) (fun i q hi hq e'=>by
  grind)
 rw[←this] at h1;rcases h.env t x h1 with⟨i,q,e1,e2,e3⟩|⟨y,hy,q,e1,e2⟩|hv
 ·grind
 ·grind
 ·exact hv
theorem DInv.step
  (wD:j3L ops=true) (hr:Run C e ops Z ops.toList s s' tr ρs sts) (h:DInv C D E n ops m0 φ0 st0 s s' tr sts A k m φ μ X a w) (hk:k<ops.size) (kE:∀t,tr[k]?=some t→t.d≠.a) (wE:∀t,tr[k]?=some t→t.d=.al→A.getD k true=true) :
  ∃φ' μ' X',DInv C D E n ops m0 φ0 st0 s s' tr sts A (k+1) m φ' μ' X' a w:=by
 have qB:tr[k]?=some (tr[k]'(by rw[hr.len];simpa using hk)):=AA _
 generalize tr[k]'(by grind)=T at qB
 have ho:ops[k]?=some ops[k]:=CD hk;obtain⟨⟨kG,_⟩,hG,qD⟩:=hr.at_ k ops[k] T (by simp[hk]) qB
 have wA:∀(i:Nat) t,tr[i]?=some t→(t.d=.a∨t.d=.al)→i<k+1→A.getD i true=true:=fun i t ht ha hi=>by
  by_cases wF:i=k
  ·grind
  ·exact h.done i t ht ha (by omega)
 by_cases hd:T.d=.al
 ·obtain⟨_,v,hC,gC⟩|⟨_,_,_,wC⟩:=qD
  rotate_left
  ·exact absurd hd wC
  rw[hd] at hC;obtain⟨T0,t,cs,hE,gA,qF,hz,rfl,hB,hg⟩:=jbj hC;obtain⟨x,hx,rfl⟩:=h.all k T qB hd (AU k) (wE T qB hd);obtain⟨⟨⟨q,t',e1,e2,e3,e4,e5⟩,e6,e7,e8,e9,e10⟩,_⟩:=h.ents x hx;rw[ho] at e1;cases e1;rw[hE] at e2;cases e2;rw[gA] at e3;cases e3;rw[hz] at e6;cases e6;obtain⟨X1,X2,hX⟩:=List.append_of_mem hx;have gB:=h.dom (sts x.i).length (AU _);have wB:Le φ (more φ (sts x.i).length (.blk x.b)):=j6I gB;have hD:∀id,id<(sts x.i).length→more φ (sts x.i).length (.blk x.b) id=φ id:=fun id hid=>j0X (by omega)
  refine⟨more φ (sts x.i).length (.blk x.b),μ++[bx x.b x.T x.vs],X.filter (fun y=>decide (y.i≠x.i)),h.mem,?_,?_,?_,fun id hid=>?_,h.size,h.tsz,h.dfr,h.clo,hk,wA,fun i t ht ha hi=>h.left i t ht ha (by omega),fun y hy=>?_,fun i t ht ha hi hA=>?_,fun t' y hy=>(h.env0 t' y hy).imp id fun⟨u,h1,h2⟩=>⟨u,h1,h2.mono (Mem.le.refl m) wB⟩,fun t' y hy=>?_⟩
  ·rw[hB];refine h.ext.trans ⟨wB,by simp,fun id hid=>?_⟩
   grind
  ·have qC:(X1++X2).filter (fun y=>decide (y.i≠x.i))=X.filter (fun y=>decide (y.i≠x.i)):=by rw[hX];simp
   have qE:Hb.Good E w m ((μ++[bx x.b x.T x.vs])++jgi (X1++X2)):=h.good.perm (by
    rw[hX];simp only[jgi,DQ,BC,BZ];exact List.Perm.append_left μ (by simp))
   refine qE.drop (List.Sublist.append (List.Sublist.refl _) ?_);rw[←qC];exact List.Sublist.map _ List.filter_sublist
  ·rw[hB];refine SR.snoc (h.sto.mono (Mem.le.refl m) wB fun id _ hid=>hD id (by omega)) ?_
   rw[AP];exact⟨x.b,x.vs,j0u _ _ _,rfl,e7 m _,e8⟩
  ·rw[hB] at hid;simp only[AL,AC,AG] at hid;rw[j0X (by omega)]
   exact h.dom id (by omega)
  ·obtain⟨h1,h2⟩:=EL.1 hy;obtain⟨h3,h4⟩:=h.ents y h1
   grind
  ·obtain⟨y,hy,rfl⟩:=h.all i t ht ha (by omega) hA
   grind
  ·rcases h.env t' y hy with h1|⟨z,hF,q,h1,h2⟩|⟨u,h1,h2⟩
   ·exact .inl h1
   ·by_cases gD:z.i=x.i
    ·rw[gD,ho] at h1;cases h1;rw[gA] at h2;cases h2;refine .inr (.inr ⟨_,e5,?_⟩);have:=hr.fin (t:=t) (k:=ops.size-(x.i+1)) (j:=x.i+1) (by omega) (fun i q hi hq e'=>by
      have:=((j2b wD ho).2 i q t hq e').2 (by omega)
      exact this.2 gA)
     rw[this,gC,gA,jfL] at hy;cases hy;exact .bp (j0u _ _ _)
    grind
   ·exact .inr (.inr ⟨u,h1,h2.mono (Mem.le.refl m) wB⟩)
 ·have qA:sts (k+1)=sts k:=by
   obtain⟨_,v,hC,_⟩|⟨_,h3,_,_⟩:=qD
   ·exact jbk hC (kE T qB) hd
   ·exact h3
  refine⟨φ,μ,X,h.mem,by rw[qA];exact h.ext,h.good,by rw[qA];exact h.sto,by rw[qA];exact h.dom,h.size,h.tsz,h.dfr,h.clo,hk,wA,fun i t ht ha hi=>h.left i t ht ha (by omega),fun y hy=>?_,fun i t ht ha hi hA=>h.all i t ht ha (by omega) hA,h.env0,h.env⟩
  obtain⟨h3,h4⟩:=h.ents y hy;refine⟨h3,?_⟩;rcases DP k y.i with h5|h5
  ·exact h5
  ·exfalso;have gF:y.i=k:=by omega
   obtain⟨t,ht,kF⟩:=h3.new
   grind
def DInv.upto{Z:Nat→Bool}{ops:Array Oper}{m0:Mem}{φ0:Ph}{st0:Sto}{s s':AS}{tr:List Tr}{ρs:Nat→AEnv}{sts:Nat→Sto}{A:Array Bool}
  (qA:j3L ops=true) (hr:Run C e ops Z ops.toList s s' tr ρs sts):∀{d k:Nat}{φ:Ph}{μ:Own}{X:List Ent},DInv C D E n ops m0 φ0 st0 s s' tr sts A k m φ μ X a w→k+d≤ops.size→(∀(i:Nat) t,k≤i→i<k+d→tr[i]?=some t→t.d≠.a∧(t.d=.al→A.getD i true=true)) →
  ∃φ' μ' X',DInv C D E n ops m0 φ0 st0 s s' tr sts A (k+d) m φ' μ' X' a w
 |0,k,φ,μ,X,h,_,_=>⟨φ,μ,X,h⟩
 |d+1,k,φ,μ,X,h,gA,hA=>by
  obtain⟨φ',μ',X',h1⟩:=h.step qA hr (by omega) (fun t ht=>(hA k t (AU k) (by omega) ht).1) (fun t ht=>(hA k t (AU k) (by omega) ht).2)
  have:=DInv.upto qA hr (d:=d) h1 (by omega) (fun i t hi wA ht=>hA i t (by omega) (by omega) ht)
  grind
def jbi(h:jdc ops tr=true):j3L ops=true∧∀(i j:Nat) x y,tr[i]?=some x→tr[j]?=some y→jbZ (clos [] ops.toList) i j x y=true:=by
 unfold jdc at h;simp only[AB] at h;refine⟨h.1,fun i j x y hx hy=>?_⟩
 have h1:=j3Z h.2 hx;have h2:=j3Z h1 hy;simpa using h2
def jg9(he:CallOk C.P e.call)(hr:Run C e ops Z ops.toList s s' tr ρs sts)(hC:j3L ops=true)(qB:∀(i j:Nat) x y,tr[i]?=some x→tr[j]?=some y→jbZ (clos [] ops.toList) i j x y=true)
  (gB:∀(j:Nat) o,ops[j]?=some o→jaw n o.dst=true) {Qf:Exit→Act→World→Prop}(wE:∀A k m φ μ X a w,DInv C D E n ops m0 φ0 st0 s s' tr sts A k m φ μ X a w→(∀i,Z i=true→i<ops.size→A.getD i true=false)→(∀i,i<ops.size→A.getD i true=true)→Qf .normal a w)
  (qG:∀j o t,Z j=true→ops[j]?=some o→tr[j]?=some t→(∃q,q<ops.size∧Z q=true∧q∈(clos [] ops.toList).getD j [])∨(t.d=.a∧∃v st,j9R C e ops o (j1n (looks ops o) (ρs j)) (sts j)=some (v,st) ∧
   ∀A m φ μ X a w m' φ' μ' c u w',DInv C D E n ops m0 φ0 st0 s s' tr sts A j m φ μ X a w→Mem.le m m'→Ext (sts j) st φ φ'→Sit ⟨w,m,feetOf μ⟩ m' φ' μ' st w'→R m' φ' v u→PanL u c→(∀i,Z i=true→i<ops.size→A.getD i true=false)→Qf (.panic c) a w')) :
  ∀fuel A k m φ μ X a w,DInv C D E n ops m0 φ0 st0 s s' tr sts A k m φ μ X a w→(∀i,Z i=true→i<ops.size→A.getD i true=false)→cnt ops A≤fuel→wpAny C.P .any ops Qf fuel A a w:=by
 intro fuel
 induction fuel with
 |zero=>
  intro A k m φ μ X a w hI wF hc;have hA:∀i,i<ops.size→A.getD i true=true:=fun i hi=>by
   simp_all[cnt,List.countP_eq_zero]
  refine⟨?_,wE A k m φ μ X a w hI wF hA⟩;cases kL:Region.ready .any ops A with
  |nil=>rfl
  |cons i l=>
   obtain⟨h1,h2,_⟩:=Gw.mem_ready (ops:=ops) (A:=A) (i:=i) (by grind)
   grind
 |succ fuel ih=>
  intro A k m φ μ X a w hI wF hc;refine⟨fun wG=>wE A k m φ μ X a w hI wF (fun i hi=>?_),fun j hj=>?_⟩
  ·cases hb:A.getD i true with
   |true=>rfl
   |false=>exact absurd wG (jpe hC hI.size hi hb)
  obtain⟨wC,kE,o,ho,wB⟩:=Gw.mem_ready hj;have hH:=cnt_set hI.size wC kE hc;have kJ:ops.toList[j]?=some o:=by simpa using ho
  have gC:tr[j]?=some (tr[j]'(by rw[hr.len];simpa using wC)):=AA _
  generalize tr[j]'(by grind)=T at gC
  obtain⟨wM,qM,qI⟩:=hr.at_ j o T kJ gC;have gH:∀x∈deps o,A.getD x true=true:=fun x hx=>Gw.getD_up (wB x hx)
  have gF:=jfZ hC hI.clo;have kI:=jnp hC;have qK:Z j=true→T.d=.a∧∃v st,j9R C e ops o (j1n (looks ops o) (ρs j)) (sts j)=some (v,st) ∧
   ∀A m φ μ X a w m' φ' μ' c u w',DInv C D E n ops m0 φ0 st0 s s' tr sts A j m φ μ X a w→Mem.le m m'→Ext (sts j) st φ φ'→Sit ⟨w,m,feetOf μ⟩ m' φ' μ' st w'→R m' φ' v u→PanL u c→(∀i,Z i=true→i<ops.size→A.getD i true=false)→Qf (.panic c) a w':=fun hz=>by
   rcases qG j o T hz ho gC with⟨q,wL,gL,qL⟩|h
   ·grind
   ·exact h
  have wD:Z j=false→∀i,Z i=true→i<ops.size→(A.setIfInBounds j true).getD i true=false:=fun hz i hi kI=>by
   rw[getD_set hI.size wC,if_neg (fun e'=>by grind)]
   exact wF i hi kI
  by_cases kH:T.d=.a
  ·-- it acts: all that acts ahead of it has been carried out
   have qF:k≤j:=by
    rcases DP j k with h4|h4
    ·have:=hI.done j T gC (.inl kH) h4
     grind
    ·exact h4
   have kF:∀(i:Nat) t,tr[i]?=some t→(t.d=.a∨t.d=.al)→i<j→A.getD i true=true:=fun i t ht ha hi=>by
    have hp:=qB i j t T ht gC;have gG:((clos [] ops.toList).getD j []).elem i=true∨((clos [] ops.toList).getD i []).elem j=true→A.getD i true=true:=fun hp=>by
     rcases hp with hp|hp
     ·exact gF j o ho gH i (by simpa using hp)
     grind
    unfold jbZ at hp;rw[kH] at hp;rcases ha with ha|ha
    ·rw[ha] at hp;simp only[CK] at hp;rcases hp with hp|hp
     ·have:=AH hp;omega
     ·exact gG hp
    ·rw[ha] at hp;simp only[CK] at hp
     grind [Nat.blt_eq]
   obtain⟨φ1,μ1,X1,qC⟩:=hI.upto hC hr (d:=j-k) (by omega) (fun i t h1 h2 ht=>⟨fun ha=>(by
    have h6:=kF i t ht (.inl ha) (by omega)
    rw[hI.left i t ht ha h1] at h6;cases h6),fun ha=>kF i t ht (.inr ha) (by omega)⟩)
   rw[show k+(j-k)=j by omega] at qC
   have gA:=qC.sees hC hr ho wC wB kE (fun y hy q t e1 e2 ht=>by
    obtain⟨h3,h4⟩:=qC.ents y hy;have h5:=(j2b hC ho).2 y.i q t e1 e2
    by_cases qH:y.i=j
    ·exact h5.1 qH ht
    ·rcases(h5.2 qH).1 ht with h6|h6
     ·have:=(j2b hC ho).1 _ h6;omega
     ·have:=gF y.i q e1 (qC.clo y.i q e1 h3.did) j h6
      grind)
   obtain⟨gD,v,qA,hD⟩|⟨gD,_⟩:=qI
   rotate_left
   ·obtain⟨_,v,st,hp,hq⟩:=qK gD;unfold wpOp;rw[ho];show if _ then _ else _
    unfold j9R at hp;split at hp
    ·rename_i hg;rw[if_pos (j5Q gA hg)];refine .inl ?_;split at hp
     ·rename_i g xs ts hE;split at hp
      ·rename_i v1 st1 hc;cases hp;refine jbX he qC.sit gA (r:=.pan v st) (by rw[hE];exact hc) (fun x1 st2 u w' m' φ' μ' hB=>by cases hB) (fun st2 w' m' φ' μ' hB=>by cases hB) (fun x1 st2 u c w' m' φ' μ' hB kM q1 q2 q3 q4=>?_)
       grind
      ·cases hp
     ·cases hp
    ·cases hp
   have moved:∀u w' m' φ' μ',Mem.le m m'→Ext (sts j) (sts (j+1)) φ1 φ'→Sit ⟨w,m,feetOf μ1⟩ m' φ' μ' (sts (j+1)) w'→R m' φ' v u→wpAny C.P .any ops Qf fuel (A.setIfInBounds j true) (a.put o.dst u) w':=fun u w' m' φ' μ' q1 q2 q3 q4=>
    ih _ (j+1) m' φ' μ' X1 _ _ (qC.put hC hr ho (gB j o ho) wC kE wB q1 q2 (qC.good.back q3.good) q3.sto q3.dom wC (fun i t ht ha hi=>by
     grind) (fun i t ht ha hi=>⟨by omega,qC.left i t ht ha (by omega)⟩) (fun y hy=>hy) (fun y hy=>⟨.inl hy,by
      obtain⟨h3,h4⟩:=qC.ents y hy;rcases DP j y.i with h5|h5
      ·exact h5
      ·exfalso;obtain⟨t,ht,hL⟩:=h3.new
       grind⟩) (fun t ht ha hi=>by omega) (by omega) hD (.inr q4)) (wD gD) hH
   unfold wpOp;rw[ho];show if _ then _ else _
   unfold j0U at qA;split at qA
   ·grind
   ·rename_i hg;rw[if_pos (j5Q gA hg)];refine .inl ?_;split at qA
    ·grind
    ·rename_i hP;split at qA
     ·grind
     ·rename_i hK;split at qA
      ·grind
      ·have qD:∀r,aS C e (j1n (looks ops o) (ρs j)) (sts j) o.op=some r→j7E C e (j1n (looks ops o) (ρs j)) (sts j) o.op=some r:=fun r hB=>by
        unfold j7E
        grind
       split at qA
       ·rename_i v1 st1 wA;simp only[AD,BB] at qA;obtain⟨rfl,rfl,h3⟩:=qA;refine jbX he qC.sit gA (r:=.val v1 (sts (j+1))) (qD _ wA) (fun x1 st2 u w' m' φ' μ' hB q1 q2 q3 q4=>?_) (fun st2 w' m' φ' μ' hB=>by cases hB) (fun x1 st2 u c w' m' φ' μ' hB=>by cases hB)
        grind
       ·rename_i st1 wA;simp only[AD,BB] at qA;obtain⟨rfl,rfl,h3⟩:=qA;refine jbX he qC.sit gA (r:=.unit (sts (j+1))) (qD _ wA) (fun x1 st2 u w' m' φ' μ' hB=>by cases hB) (fun st2 w' m' φ' μ' hB q1 q2 q3=>?_) (fun x1 st2 u c w' m' φ' μ' hB=>by cases hB)
        cases hB;exact moved undef w' m' φ' μ' q1 q2 q3 jfr
       ·cases qA
   ·cases qA
  ·-- it does not act
   obtain⟨gD,v,qA,hD⟩|⟨gD,_⟩:=qI
   rotate_left
   ·grind
   have gA:=hI.sees hC hr ho wC wB kE (fun y hy q t e1 e2 ht=>by
    obtain⟨⟨⟨q',t',f1,f2,f3,f4,f5⟩,_⟩,_⟩:=hI.ents y hy;rw[e1] at f1;cases f1;rw[e2] at f3;cases f3;have:=AF.1 f4 o (by grind)
    rw[CK] at this;rcases this with h5|h5
    ·grind
    ·split at h5
     ·rename_i T1 x1 y1 hE qJ;refine kH ?_;unfold j0U at qA;rw[hE,qJ] at qA;simp only[j6D,aP,aK,j1o] at qA;split at qA
      ·rename_i v1 st1 wA;simp only[aS,jc9] at wA;split at wA
       ·split at wA
        ·obtain⟨st2,_,h7⟩:=BQ.1 wA;cases h7
        ·cases wA
       ·cases wA
      ·grind
      ·cases qA
     ·cases h5)
   -- nothing of the store is changed
   have still:T.d≠.al→∀u w' m' φ' μ',Mem.le m m'→Ext (sts k) (sts k) φ φ'→Sit ⟨w,m,feetOf μ⟩ m' φ' μ' (sts k) w'→R m' φ' v u→wpAny C.P .any ops Qf fuel (A.setIfInBounds j true) (a.put o.dst u) w':=fun hd u w' m' φ' μ' q1 q2 q3 q4=>
    ih _ k m' φ' μ' X _ _ (hI.put hC hr ho (gB j o ho) wC kE wB q1 q2 (hI.good.back q3.good) q3.sto q3.dom hI.le (fun i t ht ha hi=>.inr (hI.done i t ht ha hi)) (fun i t ht ha hi=>⟨fun e'=>by grind,hI.left i t ht ha hi⟩) (fun y hy=>hy) (fun y hy=>⟨.inl hy,(hI.ents y hy).2⟩) (fun t ht ha _=>by
     grind) (Nat.le_refl k) hD (.inr q4)) (wD gD) hH
   unfold wpOp;rw[ho];show if _ then _ else _
   by_cases qE:T.d=.al
   ·-- a new variable
    rw[qE] at qA;obtain⟨T0,t,cs,hE,hF,hJ,hz,rfl,wI,hg⟩:=jbj qA;rw[if_pos (j5Q gA hg)];refine .inl ?_;have qF:k≤j:=by
     rcases DP j k with h4|h4
     ·have:=hI.done j T gC (.inr qE) h4
      grind
     ·exact h4
    have gI:=hz;unfold jcC at hz;split at hz
    ·rename_i z hG;have kG:(execOp a.eval o).run C.P w=.ok (.value (.pointer (some ⟨w.heap.size,0,none⟩))) { w with heap:=w.heap.push (.cells z.cells T0 (0,0)) }:=by
      cases hi:C.P.info? T0 with
      |none=>simp[tz,hi] at hG
      |some i=>
       simp[tz,hi] at hG;simp[execOp,hE,Instr.alloc,zeroValue,typeInfo,hi,hG,j9X]
     unfold Oper.wp;rw[kG];have wJ:Hb.Good E { w with heap:=w.heap.push (.cells z.cells T0 (0,0)) } m (μ++jgi (⟨j,w.heap.size,T0,cs,z.cells.toList⟩::X)):=(hI.good.new (.cells z.cells T0 (0,0))).perm (by
      simp only[jgi,BC];simpa using DW.symm)
     have hM:t<a.tmps.size:=by
      have:=gB j o ho;rw[hF] at this;rw[hI.tsz];simpa[jaw] using this
     refine ih _ k m φ μ (⟨j,w.heap.size,T0,cs,z.cells.toList⟩::X) _ _ (hI.put hC hr ho (gB j o ho) wC kE wB (Mem.le.refl m) (Ext.refl _ _) wJ hI.sto hI.dom hI.le (fun i t ht ha hi=>.inr (hI.done i t ht ha hi)) (fun i t ht ha hi=>⟨fun e'=>by grind,hI.left i t ht ha hi⟩) (fun y hy=>List.mem_cons_of_mem _ hy) (fun y hy=>?_) (fun t ht ha _=>⟨_,List.mem_cons_self,rfl⟩) (Nat.le_refl k) hD (.inl ⟨_,List.mem_cons_self,rfl⟩)) (wD gD) hH
     rcases AN.1 hy with rfl|hy
     ·refine⟨.inr ⟨rfl,⟨o,t,ho,hE,hF,hJ,?_⟩,gI,fun m φ=>(j4r hz).1,(j4r (m:=m) (φ:=φ) hz).2,?_,T,gC,qE⟩,qF⟩
      ·grind [Act.put]
      ·rw[getD_set hI.size wC,if_pos rfl]
     ·exact⟨.inl hy,(hI.ents y hy).2⟩
    ·cases hz
   unfold j0U at qA;split at qA
   ·rename_i hg;rw[if_neg (by rw[j5Q gA hg];simp)]
    simp only[AD,BB] at qA;obtain⟨rfl,h2,h3⟩:=qA;exact still qE undef w m φ μ (Mem.le.refl m) (Ext.refl _ _) hI.sit jfr
   ·rename_i hg;rw[if_pos (j5Q gA hg)];refine .inl ?_;have does:Does C.P w a m φ o v→Oper.wp C.P o a w (wpAny C.P .any ops Qf fuel (A.setIfInBounds j true)) Qf:=fun⟨u,h1,h2⟩=>by
     unfold Oper.wp;rw[h1];exact still qE u w m φ μ (Mem.le.refl m) (Ext.refl _ _) hI.sit h2
    split at qA
    ·rename_i v1 wA;simp only[AD,BB] at qA;obtain⟨rfl,h2,h3⟩:=qA;exact does (jrZ (Am.Good.memW hI.good) gA wA)
    ·rename_i hP;split at qA
     ·rename_i v1 wA;split at qA
      ·rename_i id1 hid;simp only[AD,BB] at qA;obtain⟨rfl,h2,h3⟩:=qA;have fresh:∀(i:Nat) t,tr[i]?=some t→t.d=.al→t.b[id1]?=t.f[id1]?:=fun i t ht ha=>by
        have hp:=qB i j t T ht gC;unfold jbZ at hp;rw[ha,←h3] at hp;have hp:Nat.blt id1 t.b.length=true:=hp;rw[BW] at hp;have hi:i<ops.size:=by
         have:=(AK.1 ht).1;rw[hr.len] at this;simpa using this
        obtain⟨⟨g1,_⟩,g2,⟨_,g3,g4,_⟩|⟨_,_,_,g4⟩⟩:=hr.at_ i ops[i] t (by simp[hi]) ht
        rotate_left
        ·exact absurd ha g4
        rw[ha] at g4;obtain⟨_,_,_,_,_,_,_,_,g5,_⟩:=jbj g4
        grind
       have kK:(sts k)[id1]?=(sts j)[id1]?:=by
        rcases Nat.le_total k j with qF|qF
        ·have:=hr.between (f:=fun st=>st[id1]?) (k:=j-k) (j:=k) (by omega) (fun i t h4 h5 ht ha=>by
          rcases ha with ha|ha
          rotate_left
          ·exact fresh i t ht ha
          have hp:=qB i j t T ht gC;unfold jbZ at hp;rw[ha,←h3] at hp;simp only[CK] at hp;rcases hp with(hp|hp)|hp
          ·have:=gF j o ho gH i (by simpa using hp)
           rw[hI.left i t ht ha h4] at this;cases this
          ·have hi:i<ops.size:=by omega
           grind
          ·rcases hp with hp|hp
           ·exact hr.off ht ha hp
           ·exact jnN hp)
         rw[show k+(j-k)=j by omega] at this
         exact this.symm
        ·have:=hr.between (f:=fun st=>st[id1]?) (k:=k-j) (j:=j) (by have:=hI.le;omega) (fun i t h4 h5 ht ha=>by
          rcases ha with ha|ha
          rotate_left
          ·exact fresh i t ht ha
          have hp:=qB i j t T ht gC;unfold jbZ at hp;rw[ha,←h3] at hp;simp only[CK] at hp;rcases hp with(hp|hp)|hp
          ·grind
          ·have hi:i<ops.size:=by have:=hI.le;omega
           have wH:ops[i]?=some ops[i]:=CD hi;have wK:=hI.done i t ht (.inl ha) (by omega)
           have:=gF i _ wH (hI.clo i _ wH wK) j (by simpa using hp)
           grind
          ·rcases hp with hp|hp
           ·exact hr.off ht ha hp
           ·exact jnN hp)
         rw[show j+(k-j)=k by omega] at this
         exact this
       exact does (jrY hI.sit gA (juU wA hid kK))
      ·cases qA
     ·rename_i hK;split at qA
      ·rename_i v1 wA;simp only[AD,BB] at qA;obtain⟨rfl,h2,h3⟩:=qA;exact jm2 he hI.sit gA wA (fun u w' m' φ' μ' q1 q2 q3 q4=>still qE u w' m' φ' μ' q1 q2 q3 q4)
      ·split at qA
       ·simp only[AD,BB] at qA;rcases jmR ops o with e'|e'
        ·grind
        grind
       ·grind
       ·cases qA
   ·cases qA
def DInv.start(hr:Run C e ops Z ops.toList s s' tr ρs sts)(hm:Mem.le m0 m)(qA:Ext st0 s.st φ0 φ)(hs:Sit E m φ μ s.st w)(h:EnvR m φ s.env a)(hn:a.tmps.size=n)(hD:a.defers=D):
  DInv C D E n ops m0 φ0 st0 s s' tr sts (Array.replicate ops.size false) 0 m φ μ [] a { w with drawn:=w.drawn+1 }:=by
 refine⟨hm,hr.s0▸qA,by simp only[jgi,CE,BF];exact hs.good.drew _,hr.s0▸hs.sto,hr.s0▸hs.dom,by simp,hn,hD,fun i o ho e'=>?_,DD _,fun i t _ _ hi=>absurd hi (Nat.not_lt_zero _),fun i t ht _ _=>?_,fun x hx=>absurd hx FE,fun i t ht _ _ hA=>?_,fun t y hy=>.inr (h t y hy),fun t y hy=>?_⟩
 ·rw[BM,GE,if_pos (CB.1 ho).1] at e';cases e'
 ·have hi:i<ops.size:=by
   have:=(AK.1 ht).1;rw[hr.len] at this;simpa using this
  simp_all
 ·have hi:i<ops.size:=by
   have:=(AK.1 ht).1;rw[hr.len] at this;simpa using this
  simp_all
 ·by_cases hw:∃(i:Nat) (o:Oper),ops[i]?=some o∧o.dst=some t
  ·obtain⟨i,o,h1,h2⟩:=hw;refine .inl ⟨i,o,h1,h2,?_⟩;rw[BM,GE,if_pos (CB.1 h1).1];rfl
  ·have:=hr.fin (t:=t) (k:=ops.size) (j:=0) (by omega) (fun i o _ ho e'=>hw ⟨i,o,ho,e'⟩)
   rw[this,hr.e0] at hy;exact .inr (.inr (h t y hy))
def jpT(e':o.dst=some t):∀{l:List Oper},o∈l→writes t l=true:=by
 intro l
 induction l with
 |nil=>intro h;cases h
 |cons q r ih=>
  grind [writes,Nat.beq_refl]
def jed{ops:List Oper}:∀{ρ:AEnv}{t:Nat}{x:PV},aget (aoff ops ρ) t=some x→aget ρ t=some x∧writes t ops=false
 |[],t,x,h=>by simp[aoff,aget] at h
 |(k,v)::r,t,x,h=>by
  unfold aoff at h;split at h
  ·rename_i hw;obtain⟨h1,h2⟩:=jed h;refine⟨?_,h2⟩;simp only[aget];split
   ·simp_all
   ·exact h1
  ·rename_i hw;simp only[aget] at h⊢;split at h
   ·simp_all
   ·exact jed h
theorem jjf{ro:Option Nat}{kk:Nat}(gB:C.P.follows .mixedOrders=true)(he:CallOk C.P e.call){x:AX}(hx:jkR C e ops s=some (x,s'))(qD:slots n (.region id ops true)=true)(hm:Mem.le m0 m)(wC:Ext st0 s.st φ0 φ)(hs:Sit E m φ μ s.st w)(h:EnvR m φ s.env a)(hn:a.tmps.size=n)(hD:a.defers=D):
  (Code.region id ops true).wpIn (FF ro) kk C.P (Post D E n m0 φ0 st0 x s') a w:=by
 have qC:∀(j:Nat) o,ops[j]?=some o→j4L o.op=true:=fun j o ho=>by
  simp only[slots] at qD
  grind
 have wA:∀(j:Nat) o,ops[j]?=some o→jaw n o.dst=true:=fun j o ho=>by
  simp only[slots] at qD
  grind
 have qE:=qC;unfold jkR at hx;split at hx
 ·rename_i s1 tr hB;split at hx
  ·rename_i hC;cases hx;obtain⟨ρs,sts,hr⟩:=jbm hB;obtain⟨wB,hA⟩:=jbi hC;have gC:∀A k m φ μ X a w,DInv C D E n ops m0 φ0 st0 s s' tr sts A k m φ μ X a w→(∀i,i<ops.size→A.getD i true=true)→Post D E n m0 φ0 st0 .normal s' .normal a w:=fun A k m φ μ X a w hI gA=>by
    have hk:=hI.le;obtain⟨φ',μ',X',qA⟩:=hI.upto wB hr (d:=ops.size-k) (by omega) (fun i t h1 h2 ht=>⟨fun ha=>(by
     have:=hI.left i t ht ha h1
     grind),fun _=>gA i (by omega)⟩)
    rw[show k+(ops.size-k)=ops.size by omega] at qA
    have hX:X'=[]:=by
     cases X' with
     |nil=>rfl
     |cons x r=>
      obtain⟨⟨⟨q,t,e1,_⟩,_⟩,h2⟩:=qA.ents x BG
      grind
    subst hX;have qB:sts ops.size=s'.st:=by
     have:=hr.s1;simpa using this
    refine⟨m,φ',μ',qA.mem,qB▸qA.ext,⟨by simpa[jgi] using qA.good,qB▸qA.sto,qB▸qA.dom⟩,fun t y hy=>?_,qA.tsz,qA.dfr,rfl⟩
    rcases qA.env t y hy with⟨i,q,e1,e2,e3⟩|⟨z,hz,_⟩|hv
    ·grind
    ·cases hz
    ·exact hv
   refine wpIn_region_any gB (jmZ qC Post.in (jg9 he hr wB hA wA (fun A k m φ μ X a w hI _ gA=>gC A k m φ μ X a w hI gA) (fun j o t hz=>by cases hz) _ _ 0 m φ μ [] a _ (DInv.start hr hm wC hs h hn hD) (fun i hz=>by cases hz) ?_))
   unfold cnt;exact BL (GP) (by simp)
  ·cases hx
 ·split at hx
  ·rename_i v st tr hB;split at hx
   ·rename_i hC;cases hx;obtain⟨q,s1,ρs,sts,hr,o0,t0,kF,kE,hE,wD⟩:=jbl hB;obtain⟨wB,hA⟩:=jbi hC;have gD:q<ops.size:=by grind
    refine wpIn_region_any gB (jmZ qC Post.in (jg9 he hr wB hA wA (fun A k m φ μ X a w hI hF gA=>?_) (fun j o t hz ho ht=>?_) _ _ 0 m φ μ [] a _ (DInv.start hr hm wC hs h hn hD) (fun i hz hi=>?_) ?_))
    ·-- it does not come to the end
     have e1:Nat.ble q q=true:=BN (AU q);have:=hF q (by simp[e1]) gD
     grind
    ·by_cases wE:j=q
     ·subst wE;rw[kE] at ht;cases ht;have:o0=o:=by
       grind
      subst this;refine .inr ⟨hE,v,st,wD,fun A m1 φ1 μ1 X1 a1 w1 m' φ' μ' c u w' hI q1 q2 q3 q4 q5 _=>?_⟩
      have hg:=hI.good.back q3.good;refine⟨m',φ',μ',hI.mem.trans q1,hI.ext.trans q2,⟨hg.drop (List.sublist_append_left _ _),q3.sto,q3.dom⟩,fun t x hx=>?_,hI.tsz,hI.dfr,u,⟨c,rfl,q5⟩,q4⟩
      obtain⟨h1,h2⟩:=jed hx;rcases hI.env0 t x h1 with⟨i,q',e1,e2,_⟩|⟨v',h3,h4⟩
      ·have:=jpT e2 (l:=ops.toList) (by grind)
       grind
      ·exact⟨v',h3,h4.mono q1 q2.le⟩
     ·refine .inl ⟨q,gD,?_,?_⟩
      ·simp_all
      simp_all[AB,CK,hangs]
    ·simp_all
    ·unfold cnt;exact BL (GP) (by simp)
   ·cases hx
  ·cases hx
end

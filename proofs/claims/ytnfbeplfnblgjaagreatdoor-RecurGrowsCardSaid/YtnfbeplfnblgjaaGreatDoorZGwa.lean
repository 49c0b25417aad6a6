/- A region that draws its order, over the small logic of blocks: operations that only look are taken as early as they can be, and hold what they answered till they are carried out. Plain lemmas, no statement of the seat. -/
import Derived.Test.YtnfbeplfnblgjaaGreatDoorZGwo
set_option linter.all false
namespace Go.Gw
open Go
def osl:Operand→List Nat
 | .tmp t=>[t]
 |_=>[]
def gsl(ops:Array Oper):Option (Nat×Bool)→List Nat
 |some (j,_)=>match(ops[j]?).bind (·.dst) with
  |some t=>[t]
  |none=>[]
 |none=>[]
def looks(ops:Array Oper)(o:Oper):List Nat:=o.op.operands.toList.flatMap osl++gsl ops o.guard
def deps(o:Oper):List Nat:=(o.after.toList.filter (Region.binds .any)).map (·.on)
def statPair(ops:Array Oper)(i:Nat)(o:Oper)(k:Nat):Bool:=
 match ops[k]? with
 |none=>true
 |some o'=>match o'.dst with
  |none=>true
  |some d=>if k=i then !(looks ops o).contains d else(!(looks ops o).contains d||(deps o).contains k) && !(o.dst == some d)
def statOne(ops:Array Oper)(i:Nat):Bool:=
 match ops[i]? with
 |none=>true
 |some o=>(deps o).all (fun x=>Nat.blt x i)&&(List.range ops.size).all (statPair ops i o)
def statOk(ops:Array Oper):Bool:=(List.range ops.size).all (statOne ops)
theorem stat_one{ops:Array Oper}(h:statOk ops=true){i:Nat}{o:Oper}(ho:ops[i]?=some o):(∀x∈deps o,x<i)∧∀k o' d,ops[k]?=some o'→o'.dst=some d →
  (k=i→d∉looks ops o)∧(k≠i→(d∈looks ops o→k∈deps o)∧o.dst≠some d):=by
 have hi:i<ops.size:=(Array.getElem?_eq_some_iff.1 ho).1;have h1:=List.all_eq_true.1 h i (List.mem_range.2 hi);unfold statOne at h1;rw[ho] at h1;simp only[Bool.and_eq_true] at h1;refine⟨fun x hx=>by simpa[Nat.blt_eq] using List.all_eq_true.1 h1.1 x hx,fun k o' d hk hd=>?_⟩
 have hk':k<ops.size:=(Array.getElem?_eq_some_iff.1 hk).1;have h2:=List.all_eq_true.1 h1.2 k (List.mem_range.2 hk');unfold statPair at h2;rw[hk] at h2;simp only[hd] at h2;refine⟨fun e=>?_,fun e=>?_⟩
 ·rw[if_pos e] at h2;simpa using h2
 ·rw[if_neg e] at h2;simp only[Bool.and_eq_true,Bool.or_eq_true,Bool.not_eq_true',beq_eq_false_iff_ne] at h2;refine⟨fun hm=>?_,h2.2⟩
  rcases h2.1 with h3|h3
  ·exact absurd hm (by simpa using h3)
  ·simpa using h3
structure Pn where
 i:Nat
 d:Nat
 v:Value
 o:Oper
 ρo:Env
def Evals(P:Program)(ops:Array Oper)(o:Oper)(a:Act)(w:World)(v:Value):Prop:=
 (Region.wanted o (yielded ops a.tmps)=true→(execOp a.eval o).run P w=.ok (.value v) w)∧(Region.wanted o (yielded ops a.tmps)=false→v=undef)
def PvP(P:Program)(n:Nat)(ops:Array Oper)(o:Oper)(ρ:Env)(v:Value):Prop:=∀w a,FitsE n ρ a→Evals P ops o a w v
def PvL(E:Entry)(P:Program)(n:Nat)(ops:Array Oper)(o:Oper)(ρ:Env)(m:Mem)(μ:Own)(v:Value):Prop:=∀w a,Good E w m μ→FitsE n ρ a→Evals P ops o a w v
structure PnOk (ops:Array Oper) (n:Nat) (L:List Nat) (ρ:Env) (p:Pn):Prop where
 op:ops[p.i]?=some p.o
 dst:p.o.dst=some p.d
 lt:p.d<n
 val:eget ρ p.d=some p.v
 env:∀t u,eget p.ρo t=some u→eget ρ t=some u∧t∈looks ops p.o
 dep:∀x∈deps p.o,x∈L
structure AInv (E:Entry) (P:Program) (n:Nat) (ops:Array Oper) (L:List Nat) (pp pl:List Pn) (s:St) (A:Array Bool) (a:Act) (w:World):Prop where
 good:Good E w s.m s.μ
 size:A.size=ops.size
 sub:∀i,i<ops.size→A.getD i true=true→i∈L
 pend:∀i∈L,i<ops.size→A.getD i true=false→∃p∈pp++pl,p.i=i
 tsz:a.tmps.size=n
 dfr:a.defers=s.D
 fit:∀t v,eget s.ρ t=some v→(∀p∈pp++pl,A.getD p.i true=false→p.d≠t)→a.tmps[t]?=some v
 okp:∀p∈pp++pl,PnOk ops n L s.ρ p
 evp:∀p∈pp,PvP P n ops p.o p.ρo p.v
 evl:∀p∈pl,PvL E P n ops p.o p.ρo s.m s.μ p.v
 clo:∀i o,ops[i]?=some o→A.getD i true=true→∀x∈deps o,A.getD x true=true
def cnt(ops:Array Oper)(A:Array Bool):Nat:=(List.range ops.size).countP fun i=>!A.getD i true
def XA(E:Entry)(P:Program)(n:Nat)(ops:Array Oper)(L:List Nat)(pp pl:List Pn)(s:St)(K:Exit→St→Prop):Prop:=
 ∀fuel A a w,AInv E P n ops L pp pl s A a w→cnt ops A≤fuel→wpAny P .any ops (Lift E n K) fuel A a w
section
variable{E:Entry}{P:Program}{n:Nat}{K:Exit→St→Prop}{ops:Array Oper}{L:List Nat}{pp pl:List Pn}{s:St}{A:Array Bool}{a:Act}{w:World}
variable{i j:Nat}
theorem mem_ready(h:i∈Region.ready .any ops A):i<ops.size∧A.getD i true=false∧∃o,ops[i]?=some o∧∀x∈deps o,A.getD x false=true:=by
 unfold Region.ready at h;rw[List.mem_filter] at h;obtain⟨h1,h2⟩:=h;simp only[Bool.and_eq_true,Bool.not_eq_true'] at h2;refine⟨List.mem_range.1 h1,h2.1,?_⟩;cases ho:ops[i]? with
 |none=>simp[ho] at h2
 |some o=>
  refine⟨o,rfl,fun x hx=>?_⟩
  simp only[ho,Option.map_some,Option.getD_some] at h2;unfold deps at hx;obtain⟨e,he,rfl⟩:=List.mem_map.1 hx;rw[List.mem_filter] at he;have:=Array.all_eq_true'.1 h2.2 e (by simpa using he.1)
  simpa[he.2] using this
theorem ready_ne(hst:statOk ops=true)(hA:A.size=ops.size)(hi:i<ops.size)(hf:A.getD i true=false):Region.ready .any ops A≠[]:=by
 induction i using Nat.strongRecOn with
 |_ i ih=>
  obtain⟨o,ho⟩:∃o,ops[i]?=some o:=⟨_,Array.getElem?_eq_getElem hi⟩
  by_cases hd:∀x∈deps o,A.getD x false=true
  ·intro e;have:i∈Region.ready .any ops A:=by
    unfold Region.ready;rw[List.mem_filter];refine⟨List.mem_range.2 hi,?_⟩;simp only[hf,Bool.not_false,Bool.true_and,ho,Option.map_some,Option.getD_some];refine Array.all_eq_true'.2 fun e' he'=>?_
    by_cases hb:Region.binds .any e'=true
    ·have:=hd e'.on (by unfold deps;exact List.mem_map.2 ⟨e',List.mem_filter.2 ⟨by simpa using he',hb⟩,rfl⟩)
     simp[this]
    ·simp[hb]
   rw[e] at this;cases this
  ·simp only[Classical.not_forall] at hd;obtain⟨x,hx,hxf⟩:=hd;have hlt:=(stat_one hst ho).1 x hx;refine ih x hlt (by omega) ?_
   have hx':x<A.size:=by omega
   simp only[Array.getD_eq_getD_getElem?,Array.getElem?_eq_getElem hx',Option.getD_some] at hxf⊢;simpa using hxf
theorem cnt_set(hA:A.size=ops.size)(hi:i<ops.size)(hf:A.getD i true=false){fuel:Nat}(h:cnt ops A≤fuel+1):cnt ops (A.setIfInBounds i true)≤fuel:=by
 have key:∀(l:List Nat),l.Nodup→i∈l→l.countP (fun j=>!(A.setIfInBounds i true).getD j true)+1≤l.countP (fun j=>!A.getD j true):=by
  intro l
  induction l with
  |nil=>intro _ h;cases h
  |cons x l ih=>
   intro hn hm;rw[List.nodup_cons] at hn;have hle:∀l:List Nat,l.countP (fun j=>!(A.setIfInBounds i true).getD j true)≤l.countP (fun j=>!A.getD j true):=fun l=>by
    apply List.countP_mono_left
    intro j _ hj;simp only[Array.getD_eq_getD_getElem?,Array.getElem?_setIfInBounds,Bool.not_eq_true'] at hj⊢;split at hj
    ·split at hj<;>simp at hj
    ·exact hj
   rw[List.countP_cons,List.countP_cons]
   by_cases hx:x=i
   ·subst hx;have h1:(A.setIfInBounds x true).getD x true=true:=by
     simp[Array.getD_eq_getD_getElem?,Array.getElem?_setIfInBounds,hA,hi]
    simp only[h1,hf,Bool.not_true,Bool.not_false];have:=hle l;simp only[Bool.false_eq_true,if_false,if_true];omega
   ·have h2:(A.setIfInBounds i true).getD x true=A.getD x true:=by
     simp[Array.getD_eq_getD_getElem?,Array.getElem?_setIfInBounds,Ne.symm hx]
    rw[h2];rcases List.mem_cons.1 hm with h3|h3
    ·exact absurd h3.symm hx
    ·have:=ih hn.2 h3;omega
 have:=key (List.range ops.size) List.nodup_range (List.mem_range.2 hi);unfold cnt at h⊢;omega
theorem getD_true_of(hA:A.size=ops.size)(hi:i<ops.size)(h:A.getD i false=true):A.getD i true=true:=by
 have hi':i<A.size:=by omega
 simp only[Array.getD_eq_getD_getElem?,Array.getElem?_eq_getElem hi',Option.getD_some] at h⊢;exact h
theorem getD_set(hA:A.size=ops.size)(hi:i<ops.size):(A.setIfInBounds i true).getD j true=if j=i then true else A.getD j true:=by
 simp only[Array.getD_eq_getD_getElem?,Array.getElem?_setIfInBounds]
 by_cases h:i=j
 ·subst h;simp[hA,hi]
 ·simp[h,Ne.symm h]
theorem getD_up{A:Array Bool}{x:Nat}(h:A.getD x false=true):A.getD x true=true:=by
 rw[Array.getD_eq_getD_getElem?] at h⊢;cases e:A[x]? with
 |none=>rw[e] at h;cases h
 |some b=>rw[e] at h;exact h
theorem clo_set(h:∀i o,ops[i]?=some o→A.getD i true=true→∀x∈deps o,A.getD x true=true)(hA:A.size=ops.size){o:Oper}(hj:j<ops.size)(ho:ops[j]?=some o)(hd:∀x∈deps o,A.getD x false=true):
  ∀i o,ops[i]?=some o→(A.setIfInBounds j true).getD i true=true→∀x∈deps o,(A.setIfInBounds j true).getD x true=true:=by
 intro i q hq hi x hx;have hup:A.getD x true=true→(A.setIfInBounds j true).getD x true=true:=fun e=>by
  rw[getD_set hA hj];split
  ·rfl
  ·exact e
 rw[getD_set hA hj] at hi
 by_cases hij:i=j
 ·subst hij;rw[ho] at hq;cases Option.some.inj hq;exact hup (getD_up (hd x hx))
 ·rw[if_neg hij] at hi;exact hup (h i q hq hi x hx)
theorem AInv.exec(hst:statOk ops=true)(h:AInv E P n ops L pp pl s A a w){p:Pn}(hp:p∈pp++pl)(hi:p.i<ops.size)(hf:A.getD p.i true=false)(hdep:∀x∈deps p.o,A.getD x false=true)(hL:p.i∈L):
  Evals P ops p.o a w p.v∧AInv E P n ops L pp pl s (A.setIfInBounds p.i true) (a.put (some p.d) p.v) w:=by
 have hok:=h.okp p hp;have hfe:FitsE n p.ρo a:=⟨h.tsz,fun t u ht=>by
  obtain⟨h1,h2⟩:=hok.env t u ht;refine h.fit t u h1 fun p' hp' hf' e=>?_
  have hok':=h.okp p' hp';have hs:=(stat_one hst hok.op).2 p'.i p'.o p'.d hok'.op hok'.dst
  by_cases hpi:p'.i=p.i
  ·exact hs.1 hpi (e▸h2)
  ·have hd:=(hs.2 hpi).1 (e▸h2);have h3:=hdep _ hd;have hlt:p'.i<ops.size:=(Array.getElem?_eq_some_iff.1 hok'.op).1;rw[getD_true_of h.size hlt h3] at hf';cases hf'⟩
 refine⟨?_,?_⟩
 ·rcases List.mem_append.1 hp with h1|h1
  ·exact h.evp p h1 w a hfe
  ·exact h.evl p h1 w a h.good hfe
 ·refine⟨h.good,by simp[h.size],fun i hi' e=>?_,fun i hi' hlt e=>?_,by simp[Act.put,h.tsz],h.dfr,fun t v ht hne=>?_,h.okp,h.evp,h.evl,clo_set h.clo h.size hi hok.op hdep⟩
  ·rw[getD_set h.size hi] at e
   by_cases hii:i=p.i
   ·rw[hii];exact hL
   ·rw[if_neg hii] at e;exact h.sub i hi' e
  ·rw[getD_set h.size hi] at e
   by_cases hii:i=p.i
   ·rw[if_pos hii] at e;cases e
   ·rw[if_neg hii] at e;exact h.pend i hi' hlt e
  ·have hd':p.d<a.tmps.size:=by rw[h.tsz];exact hok.lt
   by_cases htd:p.d=t
   ·subst htd;rw[hok.val] at ht;cases ht;simp[Act.put,Array.getElem?_setIfInBounds,hd']
   ·simp only[Act.put,Array.getElem?_setIfInBounds,htd,if_false];refine h.fit t v ht fun p' hp' hf'=>?_
    by_cases hpi:p'.i=p.i
    ·have hok':=h.okp p' hp';have e1:=hok'.op;rw[hpi,hok.op] at e1;have e3:p.o=p'.o:=Option.some.inj e1;have e2:=hok'.dst;rw[←e3,hok.dst] at e2;have e4:p.d=p'.d:=Option.some.inj e2;rw[←e4];exact htd
    ·refine hne p' hp' ?_;rw[getD_set h.size hi,if_neg hpi];exact hf'
def eonly(ls:List Nat):Env→Env
 |[]=>[]
 |(k,v)::r=>match ls.elem k with
  |true=>(k,v)::eonly ls r
  |false=>eonly ls r
def ehide(ls:List Nat):Env→Env
 |[]=>[]
 |(k,v)::r=>match ls.elem k with
  |true=>ehide ls r
  |false=>(k,v)::ehide ls r
def putO(dst:Option Nat)(v:Value)(ρ:Env):Env:=match dst with
 |some d=>(d,v)::ρ
 |none=>ρ
def Keff(E:Entry)(P:Program)(n:Nat)(ops:Array Oper)(e:Nat)(dst:Option Nat)(ρ0:Env)(L:List Nat)(pp pl:List Pn)(pre:Env)(K:Exit→St→Prop):Exit→St→Prop
 | .normal,s=>(∃v,s.ρ=putO dst v ρ0)∧(∀p∈pl,PvL E P n ops p.o p.ρo s.m s.μ p.v)∧XA E P n ops (e::L) pp pl ⟨pre++s.ρ,s.m,s.μ,s.D⟩ K
 |ex,s=>K ex s
def preOf(l:List Pn):Env:=l.map fun p=>(p.d,p.v)
def stay(cl:List Nat)(l:List Pn):List Pn:=l.filter fun p=>!(cl.elem p.i)
def clOk(ops:Array Oper)(o:Oper):List Nat→List Nat→Bool
 |_,[]=>true
 |acc,x::r=>((deps o).elem x||acc.any (fun y=>match ops[y]? with
   |some q=>(deps q).elem x
   |none=>false))&&clOk ops o (x::acc) r
def onlyIn(ops:Array Oper)(L:List Nat)(es:List Nat):Bool:=
 (List.range ops.size).all fun j=>L.elem j||es.elem j||match ops[j]? with
  |some o=>!((deps o).all L.elem)
  |none=>true
end
end Go.Gw

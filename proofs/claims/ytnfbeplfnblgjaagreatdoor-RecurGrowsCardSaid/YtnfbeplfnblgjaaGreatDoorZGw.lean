/- A small logic of blocks for walks over the model: what is known of memory is a part of the heap that never changes ('Mem') and a list of blocks and rows that the run owns ('Own'). Plain lemmas, no statement of the seat. -/
import Derived.WalkKit
import Derived.Laws.AppendOwnNone
import Derived.Deep.RegionWith
set_option linter.all false
namespace Go.Gw
open Go
abbrev Mem:=Nat→Option Obj
abbrev Env:=List (Nat×Value)
def Mem.le(m m':Mem):Prop:=∀b o,m b=some o→m' b=some o
theorem Mem.le.refl(m:Mem):Mem.le m m:=fun _ _ h=>h
theorem Mem.le.trans{a b c:Mem}(h:Mem.le a b)(k:Mem.le b c):Mem.le a c:=fun x o e=>k x o (h x o e)
inductive Res where
 |blk (b:Nat) (o:Obj)
 |row (v:Value) (T:TypeId) (sz n:Nat) (xs:List Value)
def Res.foot:Res→Option Nat
 | .blk b _=>some b
 | .row v _ _ _ _=>v.ownBlock
def Res.holds(w:World):Res→Prop
 | .blk b o=>w.heap[b]?=some o
 | .row v T sz n xs=>w.ownsRow 0 T sz v n xs
abbrev Own:=List Res
structure Entry where
 w:World
 m:Mem
 F:Nat→Prop
structure Good (E:Entry) (w:World) (m:Mem) (μ:Own):Prop where
 os:w.os=E.w.os
 tape:w.tape=E.w.tape
 output:w.output=E.w.output
 size:E.w.heap.size≤w.heap.size
 keep:∀b,b<E.w.heap.size→¬E.F b→w.heap[b]?=E.w.heap[b]?
 sub:∀b o,m b=some o→w.heap[b]?=some o
 mem:Mem.le E.m m
 fresh:∀b o,m b=some o→E.m b=some o∨E.F b∨E.w.heap.size≤b
 holds:∀r∈μ,r.holds w
 feet:∀r∈μ,∀b,r.foot=some b→(E.F b∨E.w.heap.size≤b)∧m b=none
 apart:μ.Pairwise (fun r s=>∀b,r.foot=some b→s.foot≠some b)
variable{a:Act}{E:Entry}{ρ:Env}{D:List Deferred}{m m':Mem}{b n:Nat}{o:Obj}{μ μ' ν:Own}{r:Res}{w w':World}
theorem Res.holds_lt(h:r.holds w)(hb:r.foot=some b):b<w.heap.size:=by
 cases r with
 |blk b' o=>
  simp only[Res.foot,Option.some.injEq] at hb;subst hb;exact(Array.getElem?_eq_some_iff.1 h).1
 |row v T sz n xs=>exact(World.ownsRow.lt h b hb).2
theorem Res.holds_of(h:r.holds w)(hk:∀b,r.foot=some b→w'.heap[b]?=w.heap[b]?):r.holds w':=by
 cases r with
 |blk b o=>exact(hk b rfl).trans h
 |row v T sz n xs=>
  obtain⟨h1,h2⟩:=h;refine⟨h1,?_⟩;rcases h2 with h2|⟨g,cap,cur,rfl,hb,hg,rest⟩
  ·exact .inl h2
  ·exact .inr ⟨g,cap,cur,rfl,hb,(hk g rfl).trans hg,rest⟩
theorem mem_lt(h:w.heap[b]?=some o):b<w.heap.size:=(Array.getElem?_eq_some_iff.1 h).1
theorem Good.drew(h:Good E w m μ)(k:Nat):Good E { w with drawn:=k } m μ:=
 ⟨h.os,h.tape,h.output,h.size,h.keep,h.sub,h.mem,h.fresh,fun r hr=>Res.holds_of (h.holds r hr) (fun _ _=>rfl),h.feet,h.apart⟩
theorem Good.drop(h:Good E w m μ)(hs:μ'.Sublist μ):Good E w m μ':=
 ⟨h.os,h.tape,h.output,h.size,h.keep,h.sub,h.mem,h.fresh,fun r hr=>h.holds r (hs.subset hr),fun r hr=>h.feet r (hs.subset hr),h.apart.sublist hs⟩
theorem Good.perm(h:Good E w m μ)(hs:μ.Perm μ'):Good E w m μ':=
 ⟨h.os,h.tape,h.output,h.size,h.keep,h.sub,h.mem,h.fresh,fun r hr=>h.holds r (hs.mem_iff.2 hr),fun r hr=>h.feet r (hs.mem_iff.2 hr),
  (hs.pairwise_iff (fun{x y} hxy b hb hx=>hxy b hx hb)).1 h.apart⟩
theorem Good.new(h:Good E w m μ)(o:Obj):
  Good E { w with heap:=w.heap.push o } m (.blk w.heap.size o::μ):=by
 have hold:∀b,b<w.heap.size→(w.heap.push o)[b]?=w.heap[b]?:=fun b hb=>by rw[Array.getElem?_push,if_neg (by omega)]
 refine⟨h.os,h.tape,h.output,by have:=h.size;simp;omega,fun b hb hf=>?_,fun b o' hb=>?_,h.mem,h.fresh,fun r hr=>?_,fun r hr b hb=>?_,?_⟩
 ·rw[←h.keep b hb hf];exact hold b (Nat.lt_of_lt_of_le hb h.size)
 ·rw[←h.sub b o' hb];exact hold b (mem_lt (h.sub b o' hb))
 ·rcases List.mem_cons.1 hr with rfl|hr
  ·simp[Res.holds]
  ·exact Res.holds_of (h.holds r hr) (fun b hb=>hold b (Res.holds_lt (h.holds r hr) hb))
 ·rcases List.mem_cons.1 hr with rfl|hr
  ·simp only[Res.foot,Option.some.injEq] at hb;subst hb;refine⟨.inr h.size,?_⟩;cases e:m w.heap.size with
   |none=>rfl
   |some o'=>exact absurd (mem_lt (h.sub _ _ e)) (Nat.lt_irrefl _)
  ·exact h.feet r hr b hb
 ·refine List.pairwise_cons.2 ⟨fun s hs b hb hs'=>?_,h.apart⟩
  simp only[Res.foot,Option.some.injEq] at hb;subst hb;exact absurd (Res.holds_lt (h.holds s hs) hs') (Nat.lt_irrefl _)
theorem Good.turn{r':Res}(h:Good E w m (r::μ))
  (hos:w'.os=w.os) (htape:w'.tape=w.tape) (hout:w'.output=w.output) (hsize:w.heap.size≤w'.heap.size)
  (hk:∀b,b<w.heap.size→r.foot≠some b→w'.heap[b]?=w.heap[b]?) (hr:r'.holds w')
  (hf:∀b,r'.foot=some b→r.foot=some b∨w.heap.size≤b):Good E w' m (r'::μ):=by
 have hμ:∀s∈μ,∀b,s.foot=some b→r.foot≠some b:=fun s hs b hb hr'=>(List.pairwise_cons.1 h.apart).1 s hs b hr' hb
 have hold:∀s∈μ,s.holds w':=fun s hs=>Res.holds_of (h.holds s (List.mem_cons_of_mem _ hs)) (fun b hb=>hk b (Res.holds_lt (h.holds s (List.mem_cons_of_mem _ hs)) hb) (hμ s hs b hb))
 refine⟨hos.trans h.os,htape.trans h.tape,hout.trans h.output,Nat.le_trans h.size hsize,fun b hb hF=>?_,fun b o hb=>?_,h.mem,h.fresh,fun s hs=>?_,fun s hs b hb=>?_,?_⟩
 ·refine(hk b (Nat.lt_of_lt_of_le hb h.size) (fun e=>?_)).trans (h.keep b hb hF)
  rcases(h.feet r List.mem_cons_self b e).1 with h1|h1
  ·exact hF h1
  ·omega
 ·refine(hk b (mem_lt (h.sub b o hb)) (fun e=>?_)).trans (h.sub b o hb)
  rw[(h.feet r List.mem_cons_self b e).2] at hb;cases hb
 ·rcases List.mem_cons.1 hs with rfl|hs
  ·exact hr
  ·exact hold s hs
 ·rcases List.mem_cons.1 hs with rfl|hs
  ·rcases hf b hb with h1|h1
   ·exact h.feet r List.mem_cons_self b h1
   ·refine⟨.inr (Nat.le_trans h.size h1),?_⟩;cases e:m b with
    |none=>rfl
    |some o'=>exact absurd (mem_lt (h.sub _ _ e)) (by omega)
  ·exact h.feet s (List.mem_cons_of_mem _ hs) b hb
 ·refine List.pairwise_cons.2 ⟨fun s hs b hb hs'=>?_,(List.pairwise_cons.1 h.apart).2⟩
  rcases hf b hb with h1|h1
  ·exact hμ s hs b hs' h1
  ·exact absurd (Res.holds_lt (h.holds s (List.mem_cons_of_mem _ hs)) hs') (by omega)
def Mem.add(m:Mem)(b:Nat)(o:Obj):Mem:=fun c=>if c=b then some o else m c
theorem Mem.le_add(h:m b=none):Mem.le m (m.add b o):=fun c o' e=>by
 unfold Mem.add
 by_cases hc:c=b
 ·subst hc;rw[h] at e;cases e
 ·rw[if_neg hc];exact e
theorem Good.freeze(h:Good E w m (r::μ))(hb:r.foot=some b)(ho:w.heap[b]?=some o):
  Good E w (m.add b o) μ∧Mem.le m (m.add b o):=by
 have hn:=(h.feet r List.mem_cons_self b hb).2;refine⟨⟨h.os,h.tape,h.output,h.size,h.keep,fun c o' e=>?_,h.mem.trans (Mem.le_add hn),fun c o' e=>?_,fun s hs=>h.holds s (List.mem_cons_of_mem _ hs),fun s hs c hc=>⟨(h.feet s (List.mem_cons_of_mem _ hs) c hc).1,?_⟩,(List.pairwise_cons.1 h.apart).2⟩,Mem.le_add hn⟩
 ·unfold Mem.add at e
  by_cases hc:c=b
  ·subst hc;rw[if_pos rfl] at e;cases e;exact ho
  ·rw[if_neg hc] at e;exact h.sub c o' e
 ·unfold Mem.add at e
  by_cases hc:c=b
  ·subst hc;exact .inr (h.feet r List.mem_cons_self c hb).1
  ·rw[if_neg hc] at e;exact h.fresh c o' e
 ·unfold Mem.add;rw[if_neg]
  ·exact(h.feet s (List.mem_cons_of_mem _ hs) c hc).2
  ·intro e;subst e;exact(List.pairwise_cons.1 h.apart).1 s hs c hb hc
def feetOf(μ:Own)(b:Nat):Prop:=∃r∈μ,r.foot=some b
def Cspec(P:Program)(f:FuncId)(args:Array Value)(m:Mem)(μ:Own)(Post:Ending→Mem→Own→Prop):Prop:=
 ∀w,Good ⟨w,m,feetOf μ⟩ w m μ→Calls P f args w fun e w'=>∃m' μ',Good ⟨w,m,feetOf μ⟩ w' m' μ'∧Post e m' μ'
theorem Cspec.mono{P:Program}{f:FuncId}{args:Array Value}{Post Post':Ending→Mem→Own→Prop}(h:Cspec P f args m μ Post)
  (hp:∀e m' μ',Mem.le m m'→Post e m' μ'→Post' e m' μ'):Cspec P f args m μ Post':=
 fun w hg=>(h w hg).mono fun e w' ⟨m',μ',hg',hq⟩=>⟨m',μ',hg',hp e m' μ' hg'.mem hq⟩
theorem Good.start(h:Good E w m (μ++ν)):Good ⟨w,m,feetOf μ⟩ w m μ:=
 ⟨rfl,rfl,rfl,Nat.le_refl _,fun _ _ _=>rfl,h.sub,Mem.le.refl m,fun _ _ e=>.inl e,fun r hr=>h.holds r (List.mem_append_left _ hr),
  fun r hr b hb=>⟨.inl ⟨r,hr,hb⟩,(h.feet r (List.mem_append_left _ hr) b hb).2⟩,(List.pairwise_append.1 h.apart).1⟩
theorem Good.back(h:Good E w m (μ++ν))(k:Good ⟨w,m,feetOf μ⟩ w' m' μ'):Good E w' m' (μ'++ν):=by
 have hap:=List.pairwise_append.1 h.apart;have hν:∀s∈ν,∀b,s.foot=some b→¬feetOf μ b:=fun s hs b hb ⟨r,hr,hr'⟩=>hap.2.2 r hr s hs b hr' hb
 have hνw:∀s∈ν,∀b,s.foot=some b→b<w.heap.size:=fun s hs b hb=>Res.holds_lt (h.holds s (List.mem_append_right _ hs)) hb
 have hμE:∀b,feetOf μ b→(E.F b∨E.w.heap.size≤b):=fun b ⟨r,hr,hb⟩=>(h.feet r (List.mem_append_left _ hr) b hb).1
 refine⟨k.os.trans h.os,k.tape.trans h.tape,k.output.trans h.output,Nat.le_trans h.size k.size,fun b hb hF=>?_,k.sub,h.mem.trans k.mem,fun b o e=>?_,fun r hr=>?_,fun r hr b hb=>?_,?_⟩
 ·refine(k.keep b (Nat.lt_of_lt_of_le hb h.size) (fun hf=>?_)).trans (h.keep b hb hF)
  rcases hμE b hf with h1|h1
  ·exact hF h1
  ·omega
 ·rcases k.fresh b o e with h1|h1|h1
  ·exact h.fresh b o h1
  ·exact .inr (hμE b h1)
  ·exact .inr (.inr (Nat.le_trans h.size h1))
 ·rcases List.mem_append.1 hr with hr|hr
  ·exact k.holds r hr
  ·exact Res.holds_of (h.holds r (List.mem_append_right _ hr)) (fun b hb=>k.keep b (hνw r hr b hb) (hν r hr b hb))
 ·rcases List.mem_append.1 hr with hr|hr
  ·obtain⟨h1,h2⟩:=k.feet r hr b hb;refine⟨?_,h2⟩;rcases h1 with h1|h1
   ·exact hμE b h1
   ·exact .inr (Nat.le_trans h.size h1)
  ·obtain⟨h1,h2⟩:=h.feet r (List.mem_append_right _ hr) b hb;refine⟨h1,?_⟩;cases e:m' b with
   |none=>rfl
   |some o=>
    rcases k.fresh b o e with h3|h3|h3
    ·have h4:m b=some o:=h3;rw[h2] at h4;cases h4
    ·exact absurd h3 (hν r hr b hb)
    ·exact absurd (hνw r hr b hb) (Nat.not_lt.2 h3)
 ·refine List.pairwise_append.2 ⟨k.apart,hap.2.1,fun r hr s hs b hb hs'=>?_⟩
  rcases(k.feet r hr b hb).1 with h1|h1
  ·exact hν s hs b hs' h1
  ·exact absurd (hνw s hs b hs') (Nat.not_lt.2 h1)
def eget:Env→Nat→Option Value
 |[],_=>none
 |(k,v)::r,t=>match Nat.beq k t with
  |true=>some v
  |false=>eget r t
def ov(ρ:Env):Operand→Option Value
 | .tmp t=>eget ρ t
 | .const v=>some v
 | .global g=>some (.pointer (some ⟨g,0,none⟩))
 | .func f=>some (.func (.func f) #[] #[])
structure St where
 ρ:Env
 m:Mem
 μ:Own
 D:List Deferred
structure Fits (n:Nat) (s:St) (a:Act):Prop where
 size:a.tmps.size=n
 get:∀t v,eget s.ρ t=some v→a.tmps[t]?=some v
 dfr:a.defers=s.D
theorem Fits.ov{n:Nat}{s:St}{a:Act}(h:Fits n s a){x:Operand}{v:Value}(hx:ov s.ρ x=some v):a.eval x=v:=by
 cases x with
 |tmp t=>
  have:=h.get t v hx;simp[Act.eval,this]
 |const c=>simpa[Gw.ov,Act.eval] using hx
 |global g=>simpa[Gw.ov,Act.eval] using hx
 |func f=>simpa[Gw.ov,Act.eval] using hx
theorem eget_put{d t:Nat}{v u:Value}:eget ((d,v)::ρ) t=some u↔(d=t∧v=u)∨(d≠t∧eget ρ t=some u):=by
 by_cases h:d=t
 ·subst h;simp[eget]
 ·have:Nat.beq d t=false:=Bool.eq_false_iff.2 (fun e=>h (Nat.eq_of_beq_eq_true e))
  simp[eget,this,h]
theorem Fits.put(h:Fits n ⟨ρ,m,μ,D⟩ a)(d:Nat)(v:Value)(hd:Nat.blt d n=true):
  Fits n ⟨(d,v)::ρ,m',μ',D⟩ (a.put (some d) v):=by
 have hd':d<a.tmps.size:=by rw[h.size];simpa[Nat.blt_eq] using hd
 refine⟨by simp[Act.put,h.size],fun t u ht=>?_,h.dfr⟩
 rcases eget_put.1 ht with⟨rfl,rfl⟩|⟨h1,h2⟩
 ·simp[Act.put,Array.getElem?_setIfInBounds,hd']
 ·simp[Act.put,Array.getElem?_setIfInBounds,h1];exact h.get t u h2
theorem Fits.same(h:Fits n ⟨ρ,m,μ,D⟩ a):Fits n ⟨ρ,m',μ',D⟩ a:=⟨h.size,h.get,h.dfr⟩
def esub(ρ:Env):Env→Prop
 |[]=>True
 |(k,v)::r=>eget ρ k=some v∧esub ρ r
theorem esub.get{ρ:Env}:∀{σ:Env},esub ρ σ→∀t v,eget σ t=some v→eget ρ t=some v
 |[],_,_,_,h=>by simp[eget] at h
 |(k,u)::r,hs,t,v,h=>by
  rcases eget_put.1 h with⟨rfl,rfl⟩|⟨_,h2⟩
  ·exact hs.1
  ·exact esub.get hs.2 t v h2
def Lift(E:Entry)(n:Nat)(K:Exit→St→Prop)(e:Exit)(a:Act)(w:World):Prop:=∃s:St,Good E w s.m s.μ∧Fits n s a∧K e s
def X(E:Entry)(P:Program)(n:Nat)(c:Code)(s:St)(K:Exit→St→Prop):Prop:=
 ∀w a,Good E w s.m s.μ→Fits n s a→c.wp P (Lift E n K) a w
def XO(E:Entry)(P:Program)(n:Nat)(ops:Array Oper)(rest:List Oper)(s:St)(K:Exit→St→Prop):Prop:=
 ∀w a,Good E w s.m s.μ→Fits n s a→wpList P ops (Lift E n K) rest a w
def Kseq(E:Entry)(P:Program)(n:Nat)(c:Code)(K:Exit→St→Prop):Exit→St→Prop
 | .normal,s=>X E P n c s K
 |e,s=>K e s
def Kblock(id:Nat)(K:Exit→St→Prop):Exit→St→Prop
 | .exit i,s=>match Nat.beq i id with
  |true=>K .normal s
  |false=>K (.exit i) s
 |e,s=>K e s
section
variable{E:Entry}{P:Program}{n:Nat}{K:Exit→St→Prop}{s:St}
def Kloop{G:Type}(ρI:G→Env)(μI:G→Own)(J:G→Mem→Prop)(meas:G→Nat)(D:List Deferred)(m0:Mem)(g:G)(K:Exit→St→Prop):Exit→St→Prop
 | .normal,s=>∃g',meas g'<meas g∧J g' s.m∧esub s.ρ (ρI g')∧(μI g').Sublist s.μ∧s.D=D∧Mem.le m0 s.m
 |e,s=>K e s
def Kcut{G:Type}(ρI:G→Env)(μI:G→Own)(J:G→Mem→Prop)(D:List Deferred)(m0:Mem)(K:Exit→St→Prop):Exit→St→Prop
 | .normal,s=>∃g,J g s.m∧esub s.ρ (ρI g)∧(μI g).Sublist s.μ∧s.D=D∧Mem.le m0 s.m
 |e,s=>K e s
def LoopAt(P:Program)(c:Code)(Q:Exit→Act→World→Prop)(a:Act)(w:World):Prop:=
 ∀(b:Frame) (k:List Item) (cs:List Frame),∃e a' w',Q e a' w'∧Arrives P (lone (b.at a (.code c::.inLoop c::k)) cs w) b k cs e a' w'
def XL(E:Entry)(P:Program)(n:Nat)(c:Code)(s:St)(K:Exit→St→Prop):Prop:=∀w a,Good E w s.m s.μ→Fits n s a→LoopAt P c (Lift E n K) a w
def Kunr(E:Entry)(P:Program)(n:Nat)(c:Code)(K:Exit→St→Prop):Exit→St→Prop
 | .normal,s=>XL E P n c s K
 |e,s=>K e s
end
end Go.Gw

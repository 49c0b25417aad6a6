/- What is laid ahead of a run and stays: tables of the library. Plain definitions, no statement of the seat. -/
import Derived.Lib.ItoaLen
import Derived.Test.YtnfbeplfnblgjaaGreatDoorZGwo
set_option linter.all false
namespace Go.Hb
open Go
def base(b:Nat):Option (Array Value→Prop):=
 if b=0 then some (fun cs=>cs=(Lib.pow10Tab.map fun z=>Value.int .u64 z).toArray) else
 if b=3 then some (fun cs=>∃m,cs = #[.int .i64 m]) else
 if b=4 then some (fun cs=>∃t p,cs = #[.iface t p]) else
 if b=5 then some (fun cs=>∃t p,cs = #[.iface t p]) else
 none
def markT(T:Nat):Bool:=Nat.beq T 5
open Go
abbrev Mem:=Nat→Nat→Option Value
def Mem.le(m m':Mem):Prop:=∀b o v,m b o=some v→m' b o=some v
theorem Mem.le.refl(m:Mem):Mem.le m m:=fun _ _ _ h=>h
theorem Mem.le.trans{a b c:Mem}(h:Mem.le a b)(k:Mem.le b c):Mem.le a c:=fun x o v e=>k x o v (h x o v e)
inductive Res where
 |blk (b:Nat) (o:Obj)
 |row (pub:Bool) (v:Value) (T:TypeId) (sz n:Nat) (xs:List Value)
def Res.foot:Res→Option Nat
 | .blk b _=>some b
 | .row _ v _ _ _ _=>v.ownBlock
def Res.lim:Res→Nat
 | .blk _ _=>0
 | .row p _ _ sz n _=>match p with
  |true=>n*sz
  |false=>0
def rowM(w:World)(e:TypeId)(sz:Nat)(v:Value)(n:Nat)(xs:List Value):Prop:=
 xs.length=n*sz∧((v=.slice none 0 0∧n=0)∨∃g cap cur fz,v=.slice (some ⟨g,0,none⟩) n cap∧w.heap[g]?=some (.cells cur e fz)∧(fz=(0,0)∨cur.size≤fz.1∧markT e=true)∧n≤cap∧cap≤maxLen∧cur.size=cap*sz∧cur.toList.take (n*sz)=xs)
variable{xs:List Value}{b n sz:Nat}{r:Res}{e:TypeId}{v:Value}{w:World}
theorem rowM_of(h:w.ownsRow 0 e sz v n xs):rowM w e sz v n xs:=by
 refine⟨h.1,?_⟩;rcases h.2 with h2|⟨g,cap,cur,hv,_,hg,rest⟩
 ·exact .inl h2
 ·exact .inr ⟨g,cap,cur,(0,0),hv,hg,.inl rfl,rest⟩
theorem rowM.own(h:rowM w e sz v n xs)(he:markT e=false):w.ownsRow 0 e sz v n xs:=by
 refine⟨h.1,?_⟩;rcases h.2 with h2|⟨g,cap,cur,fz,hv,hg,hfz,rest⟩
 ·exact .inl h2
 ·rcases hfz with rfl|⟨_,h3⟩
  ·exact .inr ⟨g,cap,cur,hv,Nat.zero_le _,hg,rest⟩
  ·rw[he] at h3;cases h3
theorem rowM.lt(h:rowM w e sz v n xs)(hb:v.ownBlock=some b):b<w.heap.size:=by
 rcases h.2 with⟨rfl,_⟩|⟨g,cap,cur,fz,rfl,hg,_⟩
 ·simp[Value.ownBlock] at hb
 ·simp only[Value.ownBlock,Option.some.injEq] at hb;subst hb;exact(Array.getElem?_eq_some_iff.1 hg).1
theorem rowM.cells(h:rowM w e sz v n xs){g:Nat}(hb:v.ownBlock=some g):∀(j:Nat) u,xs[j]?=some u→w.cell? ((⟨g,0,none⟩:Addr).add j)=some u:=by
 rcases h.2 with⟨rfl,_⟩|⟨g',cap,cur,fz,rfl,hg,_,_,_,_,ht⟩
 ·simp[Value.ownBlock] at hb
 ·simp only[Value.ownBlock,Option.some.injEq] at hb;subst hb
  intro j u hu;rw[←ht,List.getElem?_take] at hu;split at hu
  ·rw[Addr.add_lit,Nat.zero_add];simpa[World.cell?,hg] using hu
  ·cases hu
theorem run_storeCells_m(P:Program)(g o:Nat)(t:TypeId)(fz:Nat×Nat):∀(vs:List Value) (i:Nat) (cur:Array Value) (w:World),w.heap[g]?=some (.cells cur t fz)→(fz=(0,0)∨cur.size≤fz.1)→o+i+vs.length≤cur.size→(∀v∈vs,v.oneCell'=true) →
  (storeCells ⟨g,o,none⟩ vs i).run P w=.ok () (w.setRow g (cur.toList.take (o+i)++vs++cur.toList.drop (o+i+vs.length)).toArray)
 |[],i,cur,w,hg,_,_,_=>by
  simp only[storeCells,List.append_nil,List.length_nil,Nat.add_zero,List.take_append_drop,Array.toArray_toList];rw[setRow_self w g cur t fz hg];rfl
 |v::rest,i,cur,w,hg,hfz,hl,h1=>by
  have hi:o+i<cur.size:=by simp at hl;omega
  have hadd:(⟨g,o,none⟩:Addr).add i=⟨g,o+i,none⟩:=by unfold Addr.add;split<;>simp_all
  have hcell:w.cell? ⟨g,o+i,none⟩=some cur[o+i]:=by simp[World.cell?,hg,hi]
  have hfro:w.frozen? ⟨g,o+i,none⟩=false:=by
   rcases hfz with rfl|hfz
   ·simp[World.frozen?,hg]
   ·obtain⟨lo,hi'⟩:=fz;simp only[World.frozen?,hg,Bool.and_eq_false_iff,decide_eq_false_iff_not];left;simp only at hfz;omega
  have hst:(store ((⟨g,o,none⟩:Addr).add i) v).run P w=.ok () (w.setRow g (cur.setIfInBounds (o+i) v)):=by
   rw[hadd,run_store P w _ v _ (h1 v (by simp)),hcell]
   simp[hfro,setCell_eq_setRow w g (o+i) cur t fz v hg]
  have ih:=run_storeCells_m P g o t fz rest (i+1) (cur.setIfInBounds (o+i) v) (w.setRow g (cur.setIfInBounds (o+i) v)) (setRow_heap w g cur _ t _ hg) (by simpa using hfz) (by simp at hl⊢;omega) (fun x hx=>h1 x (by simp[hx]))
  simp only[storeCells,Sem.run_bind,hst,Result.andThen_ok,ih,setRow_setRow];congr 3;have e:=list_seg_step cur.toList (o+i) v rest (by simp at hl⊢;omega)
  simpa[Array.toList_setIfInBounds,Nat.add_assoc] using e
def Res.holds(w:World):Res→Prop
 | .blk b o=>w.heap[b]?=some o
 | .row _ v T sz n xs=>rowM w T sz v n xs
abbrev Own:=List Res
abbrev bx(b:Nat)(T:TypeId)(cs:List Value):Res:=.blk b (.cells cs.toArray T (0,0))
structure Entry where
 w:World
 m:Mem
 F:Nat→Prop
structure Good (E:Entry) (w:World) (m:Mem) (μ:Own):Prop where
 os:w.os=E.w.os
 tape:w.tape=E.w.tape
 output:w.output=E.w.output
 size:E.w.heap.size≤w.heap.size
 keep:∀b,b<E.w.heap.size→¬E.F b→w.heap[b]?=E.w.heap[b]?
 sub:∀b o v,m b o=some v→∃c T fr,w.heap[b]?=some (.cells c T fr)∧c[o]?=some v
 mem:Mem.le E.m m
 fresh:∀b o v,m b o=some v→E.m b o=some v∨E.F b∨E.w.heap.size≤b
 holds:∀r∈μ,r.holds w
 feet:∀r∈μ,∀b,r.foot=some b→(E.F b∨E.w.heap.size≤b)∧∀o,r.lim≤o→m b o=none
 apart:μ.Pairwise (fun r s=>∀b,r.foot=some b→s.foot≠some b)
 glob:∀b p,base b=some p→(∃cs T fr,p cs∧w.heap[b]?=some (.cells cs T fr))∧∀r∈μ,r.foot≠some b
theorem Res.holds_lt(h:r.holds w)(hb:r.foot=some b):b<w.heap.size:=by
 cases r with
 |blk b' o=>
  simp only[Res.foot,Option.some.injEq] at hb;subst hb;exact(Array.getElem?_eq_some_iff.1 h).1
 |row p v T sz n xs=>exact h.lt hb
theorem Res.holds_of{w':World}(h:r.holds w)(hk:∀b,r.foot=some b→w'.heap[b]?=w.heap[b]?):r.holds w':=by
 cases r with
 |blk b o=>exact(hk b rfl).trans h
 |row p v T sz n xs=>
  obtain⟨h1,h2⟩:=h;refine⟨h1,?_⟩;rcases h2 with h2|⟨g,cap,cur,fz,rfl,hg,rest⟩
  ·exact .inl h2
  ·exact .inr ⟨g,cap,cur,fz,rfl,(hk g rfl).trans hg,rest⟩
theorem mem_lt{o:Obj}(h:w.heap[b]?=some o):b<w.heap.size:=(Array.getElem?_eq_some_iff.1 h).1
section
variable{E:Entry}{w w':World}{m m':Mem}{μ μ' ν:Own}
variable{cs:List Value}{b o:Nat}{r:Res}{v:Value}
theorem Good.lt(h:Good E w m μ)(e:m b o=some v):b<w.heap.size:=by
 obtain⟨c,T,fr,h1,_⟩:=h.sub b o v e;exact mem_lt h1
theorem Good.drew(h:Good E w m μ)(k:Nat):Good E { w with drawn:=k } m μ:=
 ⟨h.os,h.tape,h.output,h.size,h.keep,h.sub,h.mem,h.fresh,fun r hr=>Res.holds_of (h.holds r hr) (fun _ _=>rfl),h.feet,h.apart,h.glob⟩
theorem Good.drop(h:Good E w m μ)(hs:μ'.Sublist μ):Good E w m μ':=
 ⟨h.os,h.tape,h.output,h.size,h.keep,h.sub,h.mem,h.fresh,fun r hr=>h.holds r (hs.subset hr),fun r hr=>h.feet r (hs.subset hr),h.apart.sublist hs,fun b cs hb=>⟨(h.glob b cs hb).1,fun r hr=>(h.glob b cs hb).2 r (hs.subset hr)⟩⟩
theorem Good.perm(h:Good E w m μ)(hs:μ.Perm μ'):Good E w m μ':=
 ⟨h.os,h.tape,h.output,h.size,h.keep,h.sub,h.mem,h.fresh,fun r hr=>h.holds r (hs.mem_iff.2 hr),fun r hr=>h.feet r (hs.mem_iff.2 hr),
  (hs.pairwise_iff (fun{x y} hxy b hb hx=>hxy b hx hb)).1 h.apart,fun b cs hb=>⟨(h.glob b cs hb).1,fun r hr=>(h.glob b cs hb).2 r (hs.mem_iff.2 hr)⟩⟩
theorem Good.own(h:Good E w m μ)(hr:r∈μ):r.holds w:=h.holds r hr
theorem Good.cell(h:Good E w m μ)(e:m b o=some v):w.cell? ⟨b,o,none⟩=some v:=by
 obtain⟨c,T,fr,h1,h2⟩:=h.sub b o v e;simp[World.cell?,h1,h2]
theorem Good.new(h:Good E w m μ)(o:Obj):Good E { w with heap:=w.heap.push o } m (.blk w.heap.size o::μ):=by
 have hold:∀b,b<w.heap.size→(w.heap.push o)[b]?=w.heap[b]?:=fun b hb=>by rw[Array.getElem?_push,if_neg (by omega)]
 refine⟨h.os,h.tape,h.output,by have:=h.size;simp;omega,fun b hb hf=>?_,fun b k v hb=>?_,h.mem,h.fresh,fun r hr=>?_,fun r hr b hb=>?_,?_,fun b cs hb=>?_⟩
 ·rw[←h.keep b hb hf];exact hold b (Nat.lt_of_lt_of_le hb h.size)
 ·obtain⟨c,T,fr,h1,h2⟩:=h.sub b k v hb;exact⟨c,T,fr,(hold b (mem_lt h1)).trans h1,h2⟩
 ·rcases List.mem_cons.1 hr with rfl|hr
  ·simp[Res.holds]
  ·exact Res.holds_of (h.holds r hr) (fun b hb=>hold b (Res.holds_lt (h.holds r hr) hb))
 ·rcases List.mem_cons.1 hr with rfl|hr
  ·simp only[Res.foot,Option.some.injEq] at hb;subst hb;refine⟨.inr h.size,fun k _=>?_⟩
   cases e:m w.heap.size k with
   |none=>rfl
   |some o'=>exact absurd (h.lt e) (Nat.lt_irrefl _)
  ·exact h.feet r hr b hb
 ·refine List.pairwise_cons.2 ⟨fun s hs b hb hs'=>?_,h.apart⟩
  simp only[Res.foot,Option.some.injEq] at hb;subst hb;exact absurd (Res.holds_lt (h.holds s hs) hs') (Nat.lt_irrefl _)
 ·obtain⟨⟨cs',T,fr,hp,h1⟩,h2⟩:=h.glob b cs hb;refine⟨⟨cs',T,fr,hp,(hold b (mem_lt h1)).trans h1⟩,fun r hr=>?_⟩
  rcases List.mem_cons.1 hr with rfl|hr
  ·simp only[Res.foot,ne_eq,Option.some.injEq];have:=mem_lt h1;omega
  ·exact h2 r hr
theorem Good.turn{r':Res}(h:Good E w m (r::μ))
  (hos:w'.os=w.os) (htape:w'.tape=w.tape) (hout:w'.output=w.output) (hsize:w.heap.size≤w'.heap.size)
  (hk:∀b,b<w.heap.size→r.foot≠some b→w'.heap[b]?=w.heap[b]?)
  (hc:∀b o v,r.foot=some b→m b o=some v→∃c T fr,w'.heap[b]?=some (.cells c T fr)∧c[o]?=some v) (hr:r'.holds w')
  (hf:∀b,r'.foot=some b→(r.foot=some b∧r.lim≤r'.lim)∨w.heap.size≤b):Good E w' m (r'::μ):=by
 have hμ:∀s∈μ,∀b,s.foot=some b→r.foot≠some b:=fun s hs b hb hr'=>(List.pairwise_cons.1 h.apart).1 s hs b hr' hb
 have hold:∀s∈μ,s.holds w':=fun s hs=>Res.holds_of (h.holds s (List.mem_cons_of_mem _ hs)) (fun b hb=>hk b (Res.holds_lt (h.holds s (List.mem_cons_of_mem _ hs)) hb) (hμ s hs b hb))
 refine⟨hos.trans h.os,htape.trans h.tape,hout.trans h.output,Nat.le_trans h.size hsize,fun b hb hF=>?_,fun b o v hb=>?_,h.mem,h.fresh,fun s hs=>?_,fun s hs b hb=>?_,?_,fun b cs hb=>?_⟩
 ·refine(hk b (Nat.lt_of_lt_of_le hb h.size) (fun e=>?_)).trans (h.keep b hb hF)
  rcases(h.feet r List.mem_cons_self b e).1 with h1|h1
  ·exact hF h1
  ·omega
 ·by_cases e:r.foot=some b
  ·exact hc b o v e hb
  ·obtain⟨c,T,fr,h1,h2⟩:=h.sub b o v hb;exact⟨c,T,fr,(hk b (mem_lt h1) e).trans h1,h2⟩
 ·rcases List.mem_cons.1 hs with rfl|hs
  ·exact hr
  ·exact hold s hs
 ·rcases List.mem_cons.1 hs with rfl|hs
  ·rcases hf b hb with⟨h1,h2⟩|h1
   ·obtain⟨h3,h4⟩:=h.feet r List.mem_cons_self b h1;exact⟨h3,fun o ho=>h4 o (Nat.le_trans h2 ho)⟩
   ·refine⟨.inr (Nat.le_trans h.size h1),fun k _=>?_⟩
    cases e:m b k with
    |none=>rfl
    |some o'=>exact absurd (h.lt e) (by omega)
  ·exact h.feet s (List.mem_cons_of_mem _ hs) b hb
 ·refine List.pairwise_cons.2 ⟨fun s hs b hb hs'=>?_,(List.pairwise_cons.1 h.apart).2⟩
  rcases hf b hb with⟨h1,_⟩|h1
  ·exact hμ s hs b hs' h1
  ·exact absurd (Res.holds_lt (h.holds s (List.mem_cons_of_mem _ hs)) hs') (by omega)
 ·obtain⟨⟨cs',T,fr,hp,h1⟩,h2⟩:=h.glob b cs hb;refine⟨⟨cs',T,fr,hp,(hk b (mem_lt h1) (h2 r List.mem_cons_self)).trans h1⟩,fun s hs hs'=>?_⟩
  rcases List.mem_cons.1 hs with rfl|hs
  ·rcases hf b hs' with⟨h3,_⟩|h3
   ·exact h2 r List.mem_cons_self h3
   ·have:=mem_lt h1;omega
  ·exact h2 s (List.mem_cons_of_mem _ hs) hs'
def Mem.add(m:Mem)(b:Nat)(cs:List Value):Mem:=fun c o=>if c=b then(match cs[o]? with
 |some v=>some v
 |none=>m c o) else m c o
theorem Mem.add_get{m:Mem}(h:cs[o]?=some v):m.add b cs b o=some v:=by simp[Mem.add,h]
theorem Mem.add_inv{m:Mem}{c:Nat}(h:m.add b cs c o=some v):(c=b∧cs[o]?=some v)∨m c o=some v:=by
 unfold Mem.add at h;split at h
 ·rename_i e;split at h
  ·rename_i u hu;exact .inl ⟨e,hu.trans h⟩
  ·exact .inr h
 ·exact .inr h
theorem Good.tell(h:Good E w m (r::μ))(hb:r.foot=some b)(hold:∀(o:Nat) v,cs[o]?=some v→∃c T fr,w.heap[b]?=some (.cells c T fr)∧c[o]?=some v){μ':Own}
  (hμ':∀s∈μ',s∈μ∨(s.holds w∧s.foot=some b∧r.lim≤s.lim∧cs.length≤s.lim)) (hap:μ'.Pairwise (fun r s=>∀b,r.foot=some b→s.foot≠some b)) :
  Good E w (m.add b cs) μ'∧Mem.le m (m.add b cs):=by
 have hle:Mem.le m (m.add b cs):=fun c o v e=>by
  unfold Mem.add
  by_cases hc:c=b
  ·rw[if_pos hc];cases hcs:cs[o]? with
   |none=>exact e
   |some u=>
    subst hc;obtain⟨c1,T1,fr1,h1,h2⟩:=hold o u hcs;obtain⟨c2,T2,fr2,h3,h4⟩:=h.sub _ o v e;rw[h1] at h3;cases h3;rw[h2] at h4;exact h4
  ·rw[if_neg hc];exact e
 have hF:=(h.feet r List.mem_cons_self b hb).1;refine⟨⟨h.os,h.tape,h.output,h.size,h.keep,fun c o v e=>?_,h.mem.trans hle,fun c o v e=>?_,fun s hs=>?_,fun s hs c hc=>?_,hap,fun c ds hc=>⟨(h.glob c ds hc).1,fun s hs hs'=>?_⟩⟩,hle⟩
 ·rcases Mem.add_inv e with⟨rfl,h1⟩|h1
  ·exact hold o v h1
  ·exact h.sub c o v h1
 ·rcases Mem.add_inv e with⟨rfl,_⟩|h1
  ·exact .inr hF
  ·exact h.fresh c o v h1
 ·rcases hμ' s hs with h1|h1
  ·exact h.holds s (List.mem_cons_of_mem _ h1)
  ·exact h1.1
 ·rcases hμ' s hs with h1|⟨_,h2,h3,h4⟩
  ·obtain⟨h5,h6⟩:=h.feet s (List.mem_cons_of_mem _ h1) c hc;refine⟨h5,fun o ho=>?_⟩
   cases e:m.add b cs c o with
   |none=>rfl
   |some v=>
    rcases Mem.add_inv e with⟨rfl,_⟩|h7
    ·exact absurd hc ((List.pairwise_cons.1 h.apart).1 s h1 c hb)
    ·rw[h6 o ho] at h7;cases h7
  ·rw[h2] at hc;cases hc;refine⟨hF,fun o ho=>?_⟩
   cases e:m.add b cs b o with
   |none=>rfl
   |some v=>
    rcases Mem.add_inv e with⟨_,h7⟩|h7
    ·have:=(List.getElem?_eq_some_iff.1 h7).1;omega
    ·rw[(h.feet r List.mem_cons_self b hb).2 o (by omega)] at h7;cases h7
 ·rcases hμ' s hs with h1|⟨_,h2,_⟩
  ·exact(h.glob c ds hc).2 s (List.mem_cons_of_mem _ h1) hs'
  ·rw[h2] at hs';cases hs';exact(h.glob _ ds hc).2 r List.mem_cons_self hb
def feetOf(μ:Own)(b:Nat):Prop:=∃r∈μ,r.foot=some b
theorem Good.start(h:Good E w m (μ++ν)):Good ⟨w,m,feetOf μ⟩ w m μ:=
 ⟨rfl,rfl,rfl,Nat.le_refl _,fun _ _ _=>rfl,h.sub,Mem.le.refl m,fun _ _ _ e=>.inl e,fun r hr=>h.holds r (List.mem_append_left _ hr),
  fun r hr b hb=>⟨.inl ⟨r,hr,hb⟩,(h.feet r (List.mem_append_left _ hr) b hb).2⟩,(List.pairwise_append.1 h.apart).1,fun b cs hb=>⟨(h.glob b cs hb).1,fun r hr=>(h.glob b cs hb).2 r (List.mem_append_left _ hr)⟩⟩
theorem Good.back(h:Good E w m (μ++ν))(k:Good ⟨w,m,feetOf μ⟩ w' m' μ'):Good E w' m' (μ'++ν):=by
 have hap:=List.pairwise_append.1 h.apart;have hν:∀s∈ν,∀b,s.foot=some b→¬feetOf μ b:=fun s hs b hb ⟨r,hr,hr'⟩=>hap.2.2 r hr s hs b hr' hb
 have hνw:∀s∈ν,∀b,s.foot=some b→b<w.heap.size:=fun s hs b hb=>Res.holds_lt (h.holds s (List.mem_append_right _ hs)) hb
 have hμE:∀b,feetOf μ b→(E.F b∨E.w.heap.size≤b):=fun b ⟨r,hr,hb⟩=>(h.feet r (List.mem_append_left _ hr) b hb).1
 refine⟨k.os.trans h.os,k.tape.trans h.tape,k.output.trans h.output,Nat.le_trans h.size k.size,fun b hb hF=>?_,k.sub,h.mem.trans k.mem,fun b o v e=>?_,fun r hr=>?_,fun r hr b hb=>?_,?_,fun b cs hb=>⟨(k.glob b cs hb).1,fun r hr=>?_⟩⟩
 ·refine(k.keep b (Nat.lt_of_lt_of_le hb h.size) (fun hf=>?_)).trans (h.keep b hb hF)
  rcases hμE b hf with h1|h1
  ·exact hF h1
  ·omega
 ·rcases k.fresh b o v e with h1|h1|h1
  ·exact h.fresh b o v h1
  ·exact .inr (hμE b h1)
  ·exact .inr (.inr (Nat.le_trans h.size h1))
 ·rcases List.mem_append.1 hr with hr|hr
  ·exact k.holds r hr
  ·exact Res.holds_of (h.holds r (List.mem_append_right _ hr)) (fun b hb=>k.keep b (hνw r hr b hb) (hν r hr b hb))
 ·rcases List.mem_append.1 hr with hr|hr
  ·obtain⟨h1,h2⟩:=k.feet r hr b hb;refine⟨?_,h2⟩;rcases h1 with h1|h1
   ·exact hμE b h1
   ·exact .inr (Nat.le_trans h.size h1)
  ·obtain⟨h1,h2⟩:=h.feet r (List.mem_append_right _ hr) b hb;refine⟨h1,fun o ho=>?_⟩
   cases e:m' b o with
   |none=>rfl
   |some v=>
    rcases k.fresh b o v e with h3|h3|h3
    ·have h4:m b o=some v:=h3;rw[h2 o ho] at h4;cases h4
    ·exact absurd h3 (hν r hr b hb)
    ·exact absurd (hνw r hr b hb) (Nat.not_lt.2 h3)
 ·refine List.pairwise_append.2 ⟨k.apart,hap.2.1,fun r hr s hs b hb hs'=>?_⟩
  rcases(k.feet r hr b hb).1 with h1|h1
  ·exact hν s hs b hs' h1
  ·exact absurd (hνw s hs b hs') (Nat.not_lt.2 h1)
 ·rcases List.mem_append.1 hr with hr|hr
  ·exact(k.glob b cs hb).2 r hr
  ·exact(h.glob b cs hb).2 r (List.mem_append_right _ hr)
end
end Go.Hb

/- What is laid ahead of a run and stays: tables of the library. Plain definitions, no statement of the seat. -/
import Derived.Lib.ItoaLen
import Derived.Test.YtbnodhcijeaceaaGreatDoorXGwo
set_option linter.all false
namespace Go.Hb
open Go
def base(b:Nat):Option (Array Value→Prop):=
 if b=0 then some (fun cs=>cs=(Lib.pow10Tab.map fun z=>Value.int .u64 z).toArray) else
 if b=3 then some (fun cs=>∃m,cs = #[.int .i64 m]) else
 if b=4 then some (fun cs=>∃t p,cs = #[.iface t p]) else
 if b=5 then some (fun cs=>∃t p,cs = #[.iface t p]) else
 none
def markT(T:Nat):Bool:=Nat.beq T 5
open Go
abbrev Mem:=Nat→Nat→Option Value
def Mem.le(m m':Mem):Prop:=∀b o v,m b o=some v→m' b o=some v
def Mem.le.refl(m:Mem):Mem.le m m:=fun _ _ _ h=>h
def Mem.le.trans{a b c:Mem}(h:Mem.le a b)(k:Mem.le b c):Mem.le a c:=fun x o v e=>k x o v (h x o v e)
inductive Res where
 |blk (b:Nat) (o:Obj)
 |row (pub:Bool) (v:Value) (T:TypeId) (sz n:Nat) (xs:List Value)
def Res.foot:Res→Option Nat
 | .blk b _=>some b
 | .row _ v _ _ _ _=>v.ownBlock
def Res.lim:Res→Nat
 | .blk _ _=>0
 | .row p _ _ sz n _=>match p with
  |true=>n*sz
  |false=>0
def rowM(w:World)(e:TypeId)(sz:Nat)(v:Value)(n:Nat)(xs:List Value):Prop:=
 xs.length=n*sz∧((v=.slice none 0 0∧n=0)∨∃g cap cur fz,v=.slice (some ⟨g,0,none⟩) n cap∧w.heap[g]?=some (.cells cur e fz)∧(fz=(0,0)∨cur.size≤fz.1∧markT e=true)∧n≤cap∧cap≤maxLen∧cur.size=cap*sz∧cur.toList.take (n*sz)=xs)
variable{xs:List Value}{b n sz:Nat}{r:Res}{e:TypeId}{v:Value}{w:World}
def j9W(h:w.ownsRow 0 e sz v n xs):rowM w e sz v n xs:=by
 refine⟨h.1,?_⟩;rcases h.2 with h2|⟨g,cap,cur,hv,_,hg,rest⟩
 ·exact .inl h2
 ·exact .inr ⟨g,cap,cur,(0,0),hv,hg,.inl rfl,rest⟩
def rowM.own(h:rowM w e sz v n xs)(he:markT e=false):w.ownsRow 0 e sz v n xs:=by
 refine⟨h.1,?_⟩;rcases h.2 with h2|⟨g,cap,cur,fz,hv,hg,hA,rest⟩
 ·exact .inl h2
 ·rcases hA with rfl|⟨_,h3⟩
  ·exact .inr ⟨g,cap,cur,hv,DD _,hg,rest⟩
  ·rw[he] at h3;cases h3
def rowM.lt(h:rowM w e sz v n xs)(hb:v.ownBlock=some b):b<w.heap.size:=by
 rcases h.2 with⟨rfl,_⟩|⟨g,cap,cur,fz,rfl,hg,_⟩
 ·simp[Value.ownBlock] at hb
 ·simp only[Value.ownBlock,AD] at hb;subst hb;exact(CB.1 hg).1
def rowM.cells(h:rowM w e sz v n xs){g:Nat}(hb:v.ownBlock=some g):∀(j:Nat) u,xs[j]?=some u→w.cell? ((⟨g,0,none⟩:Addr).add j)=some u:=by
 rcases h.2 with⟨rfl,_⟩|⟨g',cap,cur,fz,rfl,hg,_,_,_,_,ht⟩
 ·simp[Value.ownBlock] at hb
 ·simp only[Value.ownBlock,AD] at hb;subst hb
  intro j u hu;rw[←ht,CQ] at hu;split at hu
  ·rw[Addr.add_lit,AP];simpa[World.cell?,hg] using hu
  ·cases hu
def j2y(P:Program)(g o:Nat)(t:TypeId)(fz:Nat×Nat):∀(vs:List Value) (i:Nat) (cur:Array Value) (w:World),w.heap[g]?=some (.cells cur t fz)→(fz=(0,0)∨cur.size≤fz.1)→o+i+vs.length≤cur.size→(∀v∈vs,v.oneCell'=true) →
  (storeCells ⟨g,o,none⟩ vs i).run P w=.ok () (w.setRow g (cur.toList.take (o+i)++vs++cur.toList.drop (o+i+vs.length)).toArray)
 |[],i,cur,w,hg,_,_,_=>by
  simp only[storeCells,BF,AG,DB,CW,GU];rw[setRow_self w g cur t fz hg];rfl
 |v::rest,i,cur,w,hg,qA,hl,h1=>by
  have hi:o+i<cur.size:=by simp at hl;omega
  have wA:(⟨g,o,none⟩:Addr).add i=⟨g,o+i,none⟩:=by unfold Addr.add;split<;>simp_all
  have hA:w.cell? ⟨g,o+i,none⟩=some cur[o+i]:=by simp[World.cell?,hg,hi]
  have gA:w.frozen? ⟨g,o+i,none⟩=false:=by
   rcases qA with rfl|qA
   ·simp[World.frozen?,hg]
   ·obtain⟨lo,qB⟩:=fz;simp only[World.frozen?,hg,Bool.and_eq_false_iff,decide_eq_false_iff_not];left;simp only at qA;omega
  have hB:(store ((⟨g,o,none⟩:Addr).add i) v).run P w=.ok () (w.setRow g (cur.setIfInBounds (o+i) v)):=by
   rw[wA,run_store P w _ v _ (h1 v (by simp)),hA]
   simp[gA,setCell_eq_setRow w g (o+i) cur t fz v hg]
  have ih:=j2y P g o t fz rest (i+1) (cur.setIfInBounds (o+i) v) (w.setRow g (cur.setIfInBounds (o+i) v)) (setRow_heap w g cur _ t _ hg) (by simpa using qA) (by simp at hl⊢;omega) (fun x hx=>h1 x (by simp[hx]))
  simp only[storeCells,Sem.run_bind,hB,Result.andThen_ok,ih,setRow_setRow];congr 3;have e:=list_seg_step cur.toList (o+i) v rest (by simp at hl⊢;omega)
  simpa[Array.toList_setIfInBounds,DY] using e
def Res.holds(w:World):Res→Prop
 | .blk b o=>w.heap[b]?=some o
 | .row _ v T sz n xs=>rowM w T sz v n xs
abbrev Own:=List Res
abbrev bx(b:Nat)(T:TypeId)(cs:List Value):Res:=.blk b (.cells cs.toArray T (0,0))
structure Entry where
 w:World
 m:Mem
 F:Nat→Prop
structure Good (E:Entry) (w:World) (m:Mem) (μ:Own):Prop where
 os:w.os=E.w.os
 tape:w.tape=E.w.tape
 output:w.output=E.w.output
 size:E.w.heap.size≤w.heap.size
 keep:∀b,b<E.w.heap.size→¬E.F b→w.heap[b]?=E.w.heap[b]?
 sub:∀b o v,m b o=some v→∃c T fr,w.heap[b]?=some (.cells c T fr)∧c[o]?=some v
 mem:Mem.le E.m m
 fresh:∀b o v,m b o=some v→E.m b o=some v∨E.F b∨E.w.heap.size≤b
 holds:∀r∈μ,r.holds w
 feet:∀r∈μ,∀b,r.foot=some b→(E.F b∨E.w.heap.size≤b)∧∀o,r.lim≤o→m b o=none
 apart:μ.Pairwise (fun r s=>∀b,r.foot=some b→s.foot≠some b)
 glob:∀b p,base b=some p→(∃cs T fr,p cs∧w.heap[b]?=some (.cells cs T fr))∧∀r∈μ,r.foot≠some b
def Res.holds_lt(h:r.holds w)(hb:r.foot=some b):b<w.heap.size:=by
 cases r with
 |blk b' o=>
  simp only[Res.foot,AD] at hb;subst hb;exact(CB.1 h).1
 |row p v T sz n xs=>exact h.lt hb
def Res.holds_of{w':World}(h:r.holds w)(hk:∀b,r.foot=some b→w'.heap[b]?=w.heap[b]?):r.holds w':=by
 cases r with
 |blk b o=>exact(hk b rfl).trans h
 |row p v T sz n xs=>
  obtain⟨h1,h2⟩:=h;refine⟨h1,?_⟩;rcases h2 with h2|⟨g,cap,cur,fz,rfl,hg,rest⟩
  ·exact .inl h2
  ·exact .inr ⟨g,cap,cur,fz,rfl,(hk g rfl).trans hg,rest⟩
def j1Y{o:Obj}(h:w.heap[b]?=some o):b<w.heap.size:=(CB.1 h).1
section
variable{E:Entry}{w w':World}{m m':Mem}{μ μ' ν:Own}
variable{cs:List Value}{b o:Nat}{r:Res}{v:Value}
def Good.lt(h:Good E w m μ)(e:m b o=some v):b<w.heap.size:=by
 obtain⟨c,T,fr,h1,_⟩:=h.sub b o v e;exact j1Y h1
def Good.drew(h:Good E w m μ)(k:Nat):Good E { w with drawn:=k } m μ:=
 ⟨h.os,h.tape,h.output,h.size,h.keep,h.sub,h.mem,h.fresh,fun r hr=>Res.holds_of (h.holds r hr) (fun _ _=>rfl),h.feet,h.apart,h.glob⟩
def Good.drop(h:Good E w m μ)(hs:μ'.Sublist μ):Good E w m μ':=
 ⟨h.os,h.tape,h.output,h.size,h.keep,h.sub,h.mem,h.fresh,fun r hr=>h.holds r (hs.subset hr),fun r hr=>h.feet r (hs.subset hr),h.apart.sublist hs,fun b cs hb=>⟨(h.glob b cs hb).1,fun r hr=>(h.glob b cs hb).2 r (hs.subset hr)⟩⟩
def Good.perm(h:Good E w m μ)(hs:μ.Perm μ'):Good E w m μ':=
 ⟨h.os,h.tape,h.output,h.size,h.keep,h.sub,h.mem,h.fresh,fun r hr=>h.holds r (hs.mem_iff.2 hr),fun r hr=>h.feet r (hs.mem_iff.2 hr),
  (hs.pairwise_iff (fun{x y} hA b hb hx=>hA b hx hb)).1 h.apart,fun b cs hb=>⟨(h.glob b cs hb).1,fun r hr=>(h.glob b cs hb).2 r (hs.mem_iff.2 hr)⟩⟩
def Good.own(h:Good E w m μ)(hr:r∈μ):r.holds w:=h.holds r hr
def Good.cell(h:Good E w m μ)(e:m b o=some v):w.cell? ⟨b,o,none⟩=some v:=by
 obtain⟨c,T,fr,h1,h2⟩:=h.sub b o v e;simp[World.cell?,h1,h2]
def Good.new(h:Good E w m μ)(o:Obj):Good E { w with heap:=w.heap.push o } m (.blk w.heap.size o::μ):=by
 have hold:∀b,b<w.heap.size→(w.heap.push o)[b]?=w.heap[b]?:=fun b hb=>by rw[EY,if_neg (by omega)]
 refine⟨h.os,h.tape,h.output,by have:=h.size;simp;omega,fun b hb hf=>?_,fun b k v hb=>?_,h.mem,h.fresh,fun r hr=>?_,fun r hr b hb=>?_,?_,fun b cs hb=>?_⟩
 ·rw[←h.keep b hb hf];exact hold b (EM hb h.size)
 ·obtain⟨c,T,fr,h1,h2⟩:=h.sub b k v hb;exact⟨c,T,fr,(hold b (j1Y h1)).trans h1,h2⟩
 ·rcases AN.1 hr with rfl|hr
  ·simp[Res.holds]
  ·exact Res.holds_of (h.holds r hr) (fun b hb=>hold b (Res.holds_lt (h.holds r hr) hb))
 ·rcases AN.1 hr with rfl|hr
  ·simp only[Res.foot,AD] at hb;subst hb;refine⟨.inr h.size,fun k _=>?_⟩
   cases e:m w.heap.size k with
   |none=>rfl
   |some o'=>exact absurd (h.lt e) (Nat.lt_irrefl _)
  ·exact h.feet r hr b hb
 ·refine CA.2 ⟨fun s hs b hb hA=>?_,h.apart⟩
  simp only[Res.foot,AD] at hb;subst hb;exact absurd (Res.holds_lt (h.holds s hs) hA) (Nat.lt_irrefl _)
 ·obtain⟨⟨cs',T,fr,hp,h1⟩,h2⟩:=h.glob b cs hb;refine⟨⟨cs',T,fr,hp,(hold b (j1Y h1)).trans h1⟩,fun r hr=>?_⟩
  rcases AN.1 hr with rfl|hr
  ·simp only[Res.foot,ne_eq,AD];have:=j1Y h1;omega
  ·exact h2 r hr
def Good.turn{r':Res}(h:Good E w m (r::μ))
  (qB:w'.os=w.os) (hA:w'.tape=w.tape) (wA:w'.output=w.output) (qA:w.heap.size≤w'.heap.size)
  (hk:∀b,b<w.heap.size→r.foot≠some b→w'.heap[b]?=w.heap[b]?)
  (hc:∀b o v,r.foot=some b→m b o=some v→∃c T fr,w'.heap[b]?=some (.cells c T fr)∧c[o]?=some v) (hr:r'.holds w')
  (hf:∀b,r'.foot=some b→(r.foot=some b∧r.lim≤r'.lim)∨w.heap.size≤b):Good E w' m (r'::μ):=by
 have hμ:∀s∈μ,∀b,s.foot=some b→r.foot≠some b:=fun s hs b hb hB=>(CA.1 h.apart).1 s hs b hB hb
 have hold:∀s∈μ,s.holds w':=fun s hs=>Res.holds_of (h.holds s (BE _ hs)) (fun b hb=>hk b (Res.holds_lt (h.holds s (BE _ hs)) hb) (hμ s hs b hb))
 refine⟨qB.trans h.os,hA.trans h.tape,wA.trans h.output,BL h.size qA,fun b hb hF=>?_,fun b o v hb=>?_,h.mem,h.fresh,fun s hs=>?_,fun s hs b hb=>?_,?_,fun b cs hb=>?_⟩
 ·refine(hk b (EM hb h.size) (fun e=>?_)).trans (h.keep b hb hF)
  rcases(h.feet r BG b e).1 with h1|h1
  ·exact hF h1
  ·omega
 ·by_cases e:r.foot=some b
  ·exact hc b o v e hb
  ·obtain⟨c,T,fr,h1,h2⟩:=h.sub b o v hb;exact⟨c,T,fr,(hk b (j1Y h1) e).trans h1,h2⟩
 ·rcases AN.1 hs with rfl|hs
  ·exact hr
  ·exact hold s hs
 ·rcases AN.1 hs with rfl|hs
  ·rcases hf b hb with⟨h1,h2⟩|h1
   ·obtain⟨h3,h4⟩:=h.feet r BG b h1;exact⟨h3,fun o ho=>h4 o (BL h2 ho)⟩
   ·refine⟨.inr (BL h.size h1),fun k _=>?_⟩
    cases e:m b k with
    |none=>rfl
    |some o'=>exact absurd (h.lt e) (by omega)
  ·exact h.feet s (BE _ hs) b hb
 ·refine CA.2 ⟨fun s hs b hb gA=>?_,(CA.1 h.apart).2⟩
  rcases hf b hb with⟨h1,_⟩|h1
  ·exact hμ s hs b gA h1
  ·exact absurd (Res.holds_lt (h.holds s (BE _ hs)) gA) (by omega)
 ·obtain⟨⟨cs',T,fr,hp,h1⟩,h2⟩:=h.glob b cs hb;refine⟨⟨cs',T,fr,hp,(hk b (j1Y h1) (h2 r BG)).trans h1⟩,fun s hs gA=>?_⟩
  rcases AN.1 hs with rfl|hs
  ·rcases hf b gA with⟨h3,_⟩|h3
   ·exact h2 r BG h3
   ·have:=j1Y h1;omega
  ·exact h2 s (BE _ hs) gA
def Mem.add(m:Mem)(b:Nat)(cs:List Value):Mem:=fun c o=>if c=b then(match cs[o]? with
 |some v=>some v
 |none=>m c o) else m c o
def Mem.add_get{m:Mem}(h:cs[o]?=some v):m.add b cs b o=some v:=by simp[Mem.add,h]
def Mem.add_inv{m:Mem}{c:Nat}(h:m.add b cs c o=some v):(c=b∧cs[o]?=some v)∨m c o=some v:=by
 unfold Mem.add at h;split at h
 ·rename_i e;split at h
  ·rename_i u hu;exact .inl ⟨e,hu.trans h⟩
  ·exact .inr h
 ·exact .inr h
def Good.tell(h:Good E w m (r::μ))(hb:r.foot=some b)(hold:∀(o:Nat) v,cs[o]?=some v→∃c T fr,w.heap[b]?=some (.cells c T fr)∧c[o]?=some v){μ':Own}
  (hμ':∀s∈μ',s∈μ∨(s.holds w∧s.foot=some b∧r.lim≤s.lim∧cs.length≤s.lim)) (wA:μ'.Pairwise (fun r s=>∀b,r.foot=some b→s.foot≠some b)) :
  Good E w (m.add b cs) μ'∧Mem.le m (m.add b cs):=by
 have qA:Mem.le m (m.add b cs):=fun c o v e=>by
  unfold Mem.add
  by_cases hc:c=b
  ·rw[if_pos hc];cases gA:cs[o]? with
   |none=>exact e
   |some u=>
    subst hc;obtain⟨c1,T1,fr1,h1,h2⟩:=hold o u gA;obtain⟨c2,T2,fr2,h3,h4⟩:=h.sub _ o v e;rw[h1] at h3;cases h3;rw[h2] at h4;exact h4
  ·rw[if_neg hc];exact e
 have hF:=(h.feet r BG b hb).1;refine⟨⟨h.os,h.tape,h.output,h.size,h.keep,fun c o v e=>?_,h.mem.trans qA,fun c o v e=>?_,fun s hs=>?_,fun s hs c hc=>?_,wA,fun c ds hc=>⟨(h.glob c ds hc).1,fun s hs hA=>?_⟩⟩,qA⟩
 ·rcases Mem.add_inv e with⟨rfl,h1⟩|h1
  ·exact hold o v h1
  ·exact h.sub c o v h1
 ·rcases Mem.add_inv e with⟨rfl,_⟩|h1
  ·exact .inr hF
  ·exact h.fresh c o v h1
 ·rcases hμ' s hs with h1|h1
  ·exact h.holds s (BE _ h1)
  ·exact h1.1
 ·rcases hμ' s hs with h1|⟨_,h2,h3,h4⟩
  ·obtain⟨h5,h6⟩:=h.feet s (BE _ h1) c hc;refine⟨h5,fun o ho=>?_⟩
   cases e:m.add b cs c o with
   |none=>rfl
   |some v=>
    rcases Mem.add_inv e with⟨rfl,_⟩|h7
    ·exact absurd hc ((CA.1 h.apart).1 s h1 c hb)
    ·rw[h6 o ho] at h7;cases h7
  ·rw[h2] at hc;cases hc;refine⟨hF,fun o ho=>?_⟩
   cases e:m.add b cs b o with
   |none=>rfl
   |some v=>
    rcases Mem.add_inv e with⟨_,h7⟩|h7
    ·have:=(AK.1 h7).1;omega
    ·rw[(h.feet r BG b hb).2 o (by omega)] at h7;cases h7
 ·rcases hμ' s hs with h1|⟨_,h2,_⟩
  ·exact(h.glob c ds hc).2 s (BE _ h1) hA
  ·rw[h2] at hA;cases hA;exact(h.glob _ ds hc).2 r BG hb
def feetOf(μ:Own)(b:Nat):Prop:=∃r∈μ,r.foot=some b
def Good.start(h:Good E w m (μ++ν)):Good ⟨w,m,feetOf μ⟩ w m μ:=
 ⟨rfl,rfl,rfl,AU _,fun _ _ _=>rfl,h.sub,Mem.le.refl m,fun _ _ _ e=>.inl e,fun r hr=>h.holds r (DR _ hr),
  fun r hr b hb=>⟨.inl ⟨r,hr,hb⟩,(h.feet r (DR _ hr) b hb).2⟩,(FL.1 h.apart).1,fun b cs hb=>⟨(h.glob b cs hb).1,fun r hr=>(h.glob b cs hb).2 r (DR _ hr)⟩⟩
def Good.back(h:Good E w m (μ++ν))(k:Good ⟨w,m,feetOf μ⟩ w' m' μ'):Good E w' m' (μ'++ν):=by
 have qA:=FL.1 h.apart;have hν:∀s∈ν,∀b,s.foot=some b→¬feetOf μ b:=fun s hs b hb ⟨r,hr,gA⟩=>qA.2.2 r hr s hs b gA hb
 have hνw:∀s∈ν,∀b,s.foot=some b→b<w.heap.size:=fun s hs b hb=>Res.holds_lt (h.holds s (DM _ hs)) hb
 have hμE:∀b,feetOf μ b→(E.F b∨E.w.heap.size≤b):=fun b ⟨r,hr,hb⟩=>(h.feet r (DR _ hr) b hb).1
 refine⟨k.os.trans h.os,k.tape.trans h.tape,k.output.trans h.output,BL h.size k.size,fun b hb hF=>?_,k.sub,h.mem.trans k.mem,fun b o v e=>?_,fun r hr=>?_,fun r hr b hb=>?_,?_,fun b cs hb=>⟨(k.glob b cs hb).1,fun r hr=>?_⟩⟩
 ·refine(k.keep b (EM hb h.size) (fun hf=>?_)).trans (h.keep b hb hF)
  rcases hμE b hf with h1|h1
  ·exact hF h1
  ·omega
 ·rcases k.fresh b o v e with h1|h1|h1
  ·exact h.fresh b o v h1
  ·exact .inr (hμE b h1)
  ·exact .inr (.inr (BL h.size h1))
 ·rcases BJ.1 hr with hr|hr
  ·exact k.holds r hr
  ·exact Res.holds_of (h.holds r (DM _ hr)) (fun b hb=>k.keep b (hνw r hr b hb) (hν r hr b hb))
 ·rcases BJ.1 hr with hr|hr
  ·obtain⟨h1,h2⟩:=k.feet r hr b hb;refine⟨?_,h2⟩;rcases h1 with h1|h1
   ·exact hμE b h1
   ·exact .inr (BL h.size h1)
  ·obtain⟨h1,h2⟩:=h.feet r (DM _ hr) b hb;refine⟨h1,fun o ho=>?_⟩
   cases e:m' b o with
   |none=>rfl
   |some v=>
    rcases k.fresh b o v e with h3|h3|h3
    ·have h4:m b o=some v:=h3;rw[h2 o ho] at h4;cases h4
    ·exact absurd h3 (hν r hr b hb)
    ·exact absurd (hνw r hr b hb) (Nat.not_lt.2 h3)
 ·refine FL.2 ⟨k.apart,qA.2.1,fun r hr s hs b hb hA=>?_⟩
  rcases(k.feet r hr b hb).1 with h1|h1
  ·exact hν s hs b hA h1
  ·exact absurd (hνw s hs b hA) (Nat.not_lt.2 h1)
 ·rcases BJ.1 hr with hr|hr
  ·exact(k.glob b cs hb).2 r hr
  ·exact(h.glob b cs hb).2 r (DM _ hr)
end
end Go.Hb
namespace Go.Gw
open Go
def osl:Operand→List Nat
 | .tmp t=>[t]
 |_=>[]
def gsl(ops:Array Oper):Option (Nat×Bool)→List Nat
 |some (j,_)=>match(ops[j]?).bind (·.dst) with
  |some t=>[t]
  |none=>[]
 |none=>[]
def looks(ops:Array Oper)(o:Oper):List Nat:=o.op.operands.toList.flatMap osl++gsl ops o.guard
def deps(o:Oper):List Nat:=(o.after.toList.filter (Region.binds .any)).map (·.on)
def jkw(ops:Array Oper)(i:Nat)(o:Oper)(k:Nat):Bool:=
 match ops[k]? with
 |none=>true
 |some o'=>match o'.dst with
  |none=>true
  |some d=>if k=i then !(looks ops o).contains d else(!(looks ops o).contains d||(deps o).contains k) && !(o.dst == some d)
def jpx(ops:Array Oper)(i:Nat):Bool:=
 match ops[i]? with
 |none=>true
 |some o=>(deps o).all (fun x=>Nat.blt x i)&&(List.range ops.size).all (jkw ops i o)
def statOk(ops:Array Oper):Bool:=(List.range ops.size).all (jpx ops)
def stat_one{ops:Array Oper}(h:statOk ops=true){i:Nat}{o:Oper}(ho:ops[i]?=some o):(∀x∈deps o,x<i)∧∀k o' d,ops[k]?=some o'→o'.dst=some d →
  (k=i→d∉looks ops o)∧(k≠i→(d∈looks ops o→k∈deps o)∧o.dst≠some d):=by
 have hi:i<ops.size:=(CB.1 ho).1;have h1:=AF.1 h i (ED.2 hi);unfold jpx at h1;rw[ho] at h1;simp only[AB] at h1;refine⟨fun x hx=>by simpa[BW] using AF.1 h1.1 x hx,fun k o' d hk hd=>?_⟩
 have hA:k<ops.size:=(CB.1 hk).1;have h2:=AF.1 h1.2 k (ED.2 hA);unfold jkw at h2;rw[hk] at h2;simp only[hd] at h2;refine⟨fun e=>?_,fun e=>?_⟩
 ·rw[if_pos e] at h2;simpa using h2
 ·rw[if_neg e] at h2;simp only[AB,CK,EB,beq_eq_false_iff_ne] at h2;refine⟨fun hm=>?_,h2.2⟩
  rcases h2.1 with h3|h3
  ·exact absurd hm (by simpa using h3)
  ·simpa using h3
structure Pn where
 i:Nat
 d:Nat
 v:Value
 o:Oper
 ρo:Env
def jsu(P:Program)(ops:Array Oper)(o:Oper)(a:Act)(w:World)(v:Value):Prop:=
 (Region.wanted o (yielded ops a.tmps)=true→(execOp a.eval o).run P w=.ok (.value v) w)∧(Region.wanted o (yielded ops a.tmps)=false→v=undef)
def PvP(P:Program)(n:Nat)(ops:Array Oper)(o:Oper)(ρ:Env)(v:Value):Prop:=∀w a,FitsE n ρ a→jsu P ops o a w v
def PvL(E:Entry)(P:Program)(n:Nat)(ops:Array Oper)(o:Oper)(ρ:Env)(m:Mem)(μ:Own)(v:Value):Prop:=∀w a,Good E w m μ→FitsE n ρ a→jsu P ops o a w v
structure PnOk (ops:Array Oper) (n:Nat) (L:List Nat) (ρ:Env) (p:Pn):Prop where
 op:ops[p.i]?=some p.o
 dst:p.o.dst=some p.d
 lt:p.d<n
 val:eget ρ p.d=some p.v
 env:∀t u,eget p.ρo t=some u→eget ρ t=some u∧t∈looks ops p.o
 dep:∀x∈deps p.o,x∈L
structure AInv (E:Entry) (P:Program) (n:Nat) (ops:Array Oper) (L:List Nat) (pp pl:List Pn) (s:St) (A:Array Bool) (a:Act) (w:World):Prop where
 good:Good E w s.m s.μ
 size:A.size=ops.size
 sub:∀i,i<ops.size→A.getD i true=true→i∈L
 pend:∀i∈L,i<ops.size→A.getD i true=false→∃p∈pp++pl,p.i=i
 tsz:a.tmps.size=n
 dfr:a.defers=s.D
 fit:∀t v,eget s.ρ t=some v→(∀p∈pp++pl,A.getD p.i true=false→p.d≠t)→a.tmps[t]?=some v
 okp:∀p∈pp++pl,PnOk ops n L s.ρ p
 evp:∀p∈pp,PvP P n ops p.o p.ρo p.v
 evl:∀p∈pl,PvL E P n ops p.o p.ρo s.m s.μ p.v
 clo:∀i o,ops[i]?=some o→A.getD i true=true→∀x∈deps o,A.getD x true=true
def cnt(ops:Array Oper)(A:Array Bool):Nat:=(List.range ops.size).countP fun i=>!A.getD i true
def XA(E:Entry)(P:Program)(n:Nat)(ops:Array Oper)(L:List Nat)(pp pl:List Pn)(s:St)(K:Exit→St→Prop):Prop:=
 ∀fuel A a w,AInv E P n ops L pp pl s A a w→cnt ops A≤fuel→wpAny P .any ops (Lift E n K) fuel A a w
section
variable{E:Entry}{P:Program}{n:Nat}{K:Exit→St→Prop}{ops:Array Oper}{L:List Nat}{pp pl:List Pn}{s:St}{A:Array Bool}{a:Act}{w:World}
variable{i j:Nat}
def mem_ready(h:i∈Region.ready .any ops A):i<ops.size∧A.getD i true=false∧∃o,ops[i]?=some o∧∀x∈deps o,A.getD x false=true:=by
 unfold Region.ready at h;rw[EL] at h;obtain⟨h1,h2⟩:=h;simp only[AB,EB] at h2;refine⟨ED.1 h1,h2.1,?_⟩;cases ho:ops[i]? with
 |none=>simp[ho] at h2
 |some o=>
  refine⟨o,rfl,fun x hx=>?_⟩
  simp only[ho,AY,CF] at h2;unfold deps at hx;obtain⟨e,he,rfl⟩:=DC.1 hx;rw[EL] at he;have:=HD.1 h2.2 e (by simpa using he.1)
  simpa[he.2] using this
def ready_ne(wA:statOk ops=true)(hA:A.size=ops.size)(hi:i<ops.size)(hf:A.getD i true=false):Region.ready .any ops A≠[]:=by
 induction i using Nat.strongRecOn with
 |_ i ih=>
  obtain⟨o,ho⟩:∃o,ops[i]?=some o:=⟨_,CD hi⟩
  by_cases hd:∀x∈deps o,A.getD x false=true
  ·intro e;have:i∈Region.ready .any ops A:=by
    unfold Region.ready;rw[EL];refine⟨ED.2 hi,?_⟩;simp only[hf,DV,CG,ho,AY,CF];refine HD.2 fun e' qB=>?_
    by_cases hb:Region.binds .any e'=true
    ·have:=hd e'.on (by unfold deps;exact DC.2 ⟨e',EL.2 ⟨by simpa using qB,hb⟩,rfl⟩)
     simp[this]
    ·simp[hb]
   rw[e] at this;cases this
  ·simp only[Classical.not_forall] at hd;obtain⟨x,hx,qA⟩:=hd;have hB:=(stat_one wA ho).1 x hx;refine ih x hB (by omega) ?_
   have gA:x<A.size:=by omega
   simp only[BM,CD gA,CF] at qA⊢;simpa using qA
def cnt_set(hA:A.size=ops.size)(hi:i<ops.size)(hf:A.getD i true=false){fuel:Nat}(h:cnt ops A≤fuel+1):cnt ops (A.setIfInBounds i true)≤fuel:=by
 have key:∀(l:List Nat),l.Nodup→i∈l→l.countP (fun j=>!(A.setIfInBounds i true).getD j true)+1≤l.countP (fun j=>!A.getD j true):=by
  intro l
  induction l with
  |nil=>intro _ h;cases h
  |cons x l ih=>
   intro hn hm;rw[DX] at hn;have qA:∀l:List Nat,l.countP (fun j=>!(A.setIfInBounds i true).getD j true)≤l.countP (fun j=>!A.getD j true):=fun l=>by
    apply List.countP_mono_left
    intro j _ hj;simp only[BM,BS,EB] at hj⊢;split at hj
    ·split at hj<;>simp at hj
    ·exact hj
   rw[List.countP_cons,List.countP_cons]
   by_cases hx:x=i
   ·subst hx;have h1:(A.setIfInBounds x true).getD x true=true:=by
     simp[BM,BS,hA,hi]
    simp only[h1,hf,EK,DV];have:=qA l;simp only[CN,if_false,if_true];omega
   ·have h2:(A.setIfInBounds i true).getD x true=A.getD x true:=by
     simp[BM,BS,Ne.symm hx]
    rw[h2];rcases AN.1 hm with h3|h3
    ·exact absurd h3.symm hx
    ·have:=ih hn.2 h3;omega
 have:=key (List.range ops.size) List.nodup_range (ED.2 hi);unfold cnt at h⊢;omega
def getD_true_of(hA:A.size=ops.size)(hi:i<ops.size)(h:A.getD i false=true):A.getD i true=true:=by
 have qA:i<A.size:=by omega
 simp only[BM,CD qA,CF] at h⊢;exact h
def getD_set(hA:A.size=ops.size)(hi:i<ops.size):(A.setIfInBounds i true).getD j true=if j=i then true else A.getD j true:=by
 simp only[BM,BS]
 by_cases h:i=j
 ·subst h;simp[hA,hi]
 ·simp[h,Ne.symm h]
def getD_up{A:Array Bool}{x:Nat}(h:A.getD x false=true):A.getD x true=true:=by
 rw[BM] at h⊢;cases e:A[x]? with
 |none=>rw[e] at h;cases h
 |some b=>rw[e] at h;exact h
def clo_set(h:∀i o,ops[i]?=some o→A.getD i true=true→∀x∈deps o,A.getD x true=true)(hA:A.size=ops.size){o:Oper}(hj:j<ops.size)(ho:ops[j]?=some o)(hd:∀x∈deps o,A.getD x false=true):
  ∀i o,ops[i]?=some o→(A.setIfInBounds j true).getD i true=true→∀x∈deps o,(A.setIfInBounds j true).getD x true=true:=by
 intro i q hq hi x hx;have qA:A.getD x true=true→(A.setIfInBounds j true).getD x true=true:=fun e=>by
  rw[getD_set hA hj];split
  ·rfl
  ·exact e
 rw[getD_set hA hj] at hi
 by_cases gA:i=j
 ·subst gA;rw[ho] at hq;cases BP hq;exact qA (getD_up (hd x hx))
 ·rw[if_neg gA] at hi;exact qA (h i q hq hi x hx)
def AInv.exec(wC:statOk ops=true)(h:AInv E P n ops L pp pl s A a w){p:Pn}(hp:p∈pp++pl)(hi:p.i<ops.size)(hf:A.getD p.i true=false)(hB:∀x∈deps p.o,A.getD x false=true)(hL:p.i∈L):
  jsu P ops p.o a w p.v∧AInv E P n ops L pp pl s (A.setIfInBounds p.i true) (a.put (some p.d) p.v) w:=by
 have qA:=h.okp p hp;have gC:FitsE n p.ρo a:=⟨h.tsz,fun t u ht=>by
  obtain⟨h1,h2⟩:=qA.env t u ht;refine h.fit t u h1 fun p' qB gB e=>?_
  have hA:=h.okp p' qB;have hs:=(stat_one wC qA.op).2 p'.i p'.o p'.d hA.op hA.dst
  by_cases gA:p'.i=p.i
  ·exact hs.1 gA (e▸h2)
  ·have hd:=(hs.2 gA).1 (e▸h2);have h3:=hB _ hd;have hC:p'.i<ops.size:=(CB.1 hA.op).1;rw[getD_true_of h.size hC h3] at gB;cases gB⟩
 refine⟨?_,?_⟩
 ·rcases BJ.1 hp with h1|h1
  ·exact h.evp p h1 w a gC
  ·exact h.evl p h1 w a h.good gC
 ·refine⟨h.good,by simp[h.size],fun i qC e=>?_,fun i qC hC e=>?_,by simp[Act.put,h.tsz],h.dfr,fun t v ht hD=>?_,h.okp,h.evp,h.evl,clo_set h.clo h.size hi qA.op hB⟩
  ·rw[getD_set h.size hi] at e
   by_cases wA:i=p.i
   ·rw[wA];exact hL
   ·rw[if_neg wA] at e;exact h.sub i qC e
  ·rw[getD_set h.size hi] at e
   by_cases wA:i=p.i
   ·rw[if_pos wA] at e;cases e
   ·rw[if_neg wA] at e;exact h.pend i qC hC e
  ·have qD:p.d<a.tmps.size:=by rw[h.tsz];exact qA.lt
   by_cases wB:p.d=t
   ·subst wB;rw[qA.val] at ht;cases ht;simp[Act.put,BS,qD]
   ·simp only[Act.put,BS,wB,if_false];refine h.fit t v ht fun p' qB gB=>?_
    by_cases gA:p'.i=p.i
    ·have hA:=h.okp p' qB;have e1:=hA.op;rw[gA,qA.op] at e1;have e3:p.o=p'.o:=BP e1;have e2:=hA.dst;rw[←e3,qA.dst] at e2;have e4:p.d=p'.d:=BP e2;rw[←e4];exact wB
    ·refine hD p' qB ?_;rw[getD_set h.size hi,if_neg gA];exact gB
def jub(ls:List Nat):Env→Env
 |[]=>[]
 |(k,v)::r=>match ls.elem k with
  |true=>(k,v)::jub ls r
  |false=>jub ls r
def ju7(ls:List Nat):Env→Env
 |[]=>[]
 |(k,v)::r=>match ls.elem k with
  |true=>ju7 ls r
  |false=>(k,v)::ju7 ls r
def putO(dst:Option Nat)(v:Value)(ρ:Env):Env:=match dst with
 |some d=>(d,v)::ρ
 |none=>ρ
def Keff(E:Entry)(P:Program)(n:Nat)(ops:Array Oper)(e:Nat)(dst:Option Nat)(ρ0:Env)(L:List Nat)(pp pl:List Pn)(pre:Env)(K:Exit→St→Prop):Exit→St→Prop
 | .normal,s=>(∃v,s.ρ=putO dst v ρ0)∧(∀p∈pl,PvL E P n ops p.o p.ρo s.m s.μ p.v)∧XA E P n ops (e::L) pp pl ⟨pre++s.ρ,s.m,s.μ,s.D⟩ K
 |ex,s=>K ex s
def jvA(l:List Pn):Env:=l.map fun p=>(p.d,p.v)
def stay(cl:List Nat)(l:List Pn):List Pn:=l.filter fun p=>!(cl.elem p.i)
def clOk(ops:Array Oper)(o:Oper):List Nat→List Nat→Bool
 |_,[]=>true
 |acc,x::r=>((deps o).elem x||acc.any (fun y=>match ops[y]? with
   |some q=>(deps q).elem x
   |none=>false))&&clOk ops o (x::acc) r
def jvr(ops:Array Oper)(L:List Nat)(es:List Nat):Bool:=
 (List.range ops.size).all fun j=>L.elem j||es.elem j||match ops[j]? with
  |some o=>!((deps o).all L.elem)
  |none=>true
end

/- How the plain machine's values lie in memory. Plain definitions and lemmas, no statement of the seat. -/
import Derived.Test.YtnfbeplfnblgjaaGreatDoorZAm
set_option linter.all false
namespace Go.Am
open Go Go.Hb
def RdN(m:Mem)(b off:Nat)(vs:List Value):Prop:=∀j v,vs[j]?=some v→m b (off+j)=some v
variable{cs:List PV}{vs:List Value}{m m':Mem}{c x:PV}{v:Value}
theorem RdN.mono{b off:Nat}(h:RdN m b off vs)(hle:Mem.le m m'):RdN m' b off vs:=fun j v hv=>hle _ _ _ (h j v hv)
inductive Phi where
 |blk (b:Nat)
 |row (sv:Value) (n sz:Nat)
abbrev Ph:=Nat→Option Phi
def noPh:Ph:=fun _=>none
inductive R (m:Mem):Ph→PV→Value→Prop where
 |sc {φ:Ph}{v:Value}(h:isSc v=true):R m φ (.sc v) v
 |ag {φ:Ph}{cs:List PV}{vs:List Value}(hl:cs.length=vs.length) (hc:cs.all cell=true) (h:∀(i:Nat) c v,cs[i]?=some c→vs[i]?=some v→R m φ c v):R m φ (.ag cs) (.agg vs.toArray)
 |tu {φ:Ph}{cs:List PV}{vs:List Value}(hl:cs.length=vs.length) (h:∀(i:Nat) c v,cs[i]?=some c→vs[i]?=some v→R m φ c v):R m φ (.tu cs) (.tuple vs.toArray)
 |sl {φ:Ph}{full:Bool}{sz:Nat}{xs:List PV}{a:Option Addr}{cap:Nat}(b off:Nat) (g:Nat→List Value) (ha:xs≠[]→a=some ⟨b,off,none⟩) (hcap:xs.length≤cap) (hmax:cap≤maxLen) (hfull:full=true→cap=xs.length)
   (hel:∀(i:Nat) x,xs[i]?=some x→x.cells.length=sz∧(g i).length=sz∧RdN m b (off+i*sz) (g i)∧x.cells.all cell=true)
   (hr:∀(i:Nat) x (j:Nat) c v,xs[i]?=some x→x.cells[j]?=some c→(g i)[j]?=some v→R m noPh c v) (hnil:full=true→sz=0→a=none):R m φ (.sl full sz xs) (.slice a xs.length cap)
 |ms {φ:Ph}{id len n sz:Nat}{sv v:Value}(hφ:φ id=some (.row sv n sz)) (hle:len≤n) (hv:len=n→v=sv) (hs:∃a l c,v=.slice a l c):R m φ (.ms id len) v
 |bp {φ:Ph}{id off b:Nat}(hφ:φ id=some (.blk b)):R m φ (.bp id off) (.pointer (some ⟨b,off,none⟩))
 |rp {φ:Ph}{id len i off n sz:Nat}{sv v:Value}(hφ:φ id=some (.row sv n sz)) (hle:len≤n) (hv:len=n→∃b cap,sv=.slice (some ⟨b,0,none⟩) n cap∧v=.pointer (some ⟨b,i*sz+off,none⟩)) (hp:∃b o,v=.pointer (some ⟨b,o,none⟩)):R m φ (.rp id len i off) v
 |cp {φ:Ph}{cs:List PV}{b off:Nat}{vs:List Value}(hl:cs.length=vs.length) (hrd:RdN m b off vs) (hc:cs.all cell=true) (h:∀(i:Nat) c v,cs[i]?=some c→vs[i]?=some v→R m noPh c v):R m φ (.cp cs) (.pointer (some ⟨b,off,none⟩))
 |ci {φ:Ph}{cs:List PV}{b off:Nat}{vs:List Value}(hl:cs.length=vs.length) (hrd:RdN m b off vs) (hc:cs.all cell=true) (h:∀(i:Nat) c v,cs[i]?=some c→vs[i]?=some v→R m φ c v):R m φ (.ci cs) (.pointer (some ⟨b,off,none⟩))
 |fn {φ:Ph}{f:FuncId}{as bs:List PV}{us vs:List Value}(hl:as.length=us.length) (hl':bs.length=vs.length) (h:∀(i:Nat) c v,as[i]?=some c→us[i]?=some v→R m φ c v) (h':∀(i:Nat) c v,bs[i]?=some c→vs[i]?=some v→R m φ c v):R m φ (.fn f as bs) (.func (.func f) us.toArray vs.toArray)
 |ifc {φ:Ph}{t:TypeId}{x:PV}{v:Value}(h:R m φ x v):R m φ (.ifc t x) (.iface t v)
 |yl {φ:Ph}{id l:Nat}(hφ:φ id=some (.blk l)):R m φ (.yl id) (.func (.yield l) #[] #[])
 |mr {φ:Ph}{id b:Nat}(hφ:φ id=some (.blk b)):R m φ (.mr id) (.map (some b))
 |cr {φ:Ph}{id b:Nat}(hφ:φ id=some (.blk b)):R m φ (.cr id) (.chan (some b))
 |un {φ:Ph}{v:Value}(h:v.oneCell'=true):R m φ .un v
def Rl(m:Mem)(φ:Ph)(cs:List PV)(vs:List Value):Prop:=cs.length=vs.length∧∀(i:Nat) c v,cs[i]?=some c→vs[i]?=some v→R m φ c v
variable{φ:Ph}
theorem Rl.nil:Rl m φ [] []:=⟨rfl,fun i c v h=>by simp at h⟩
theorem Rl.cons(h:R m φ c v)(hs:Rl m φ cs vs):Rl m φ (c::cs) (v::vs):=by
 refine⟨by simp[hs.1],fun i c' v' h1 h2=>?_⟩
 cases i with
 |zero=>simp at h1 h2;subst h1;subst h2;exact h
 |succ i=>exact hs.2 i c' v' (by simpa using h1) (by simpa using h2)
theorem Rl.uncons{ws:List Value}(h:Rl m φ (c::cs) ws):∃v vs,ws=v::vs∧R m φ c v∧Rl m φ cs vs:=by
 cases ws with
 |nil=>exact absurd h.1 (by simp)
 |cons v vs=>exact⟨v,vs,rfl,h.2 0 c v rfl rfl,⟨by have:=h.1;simpa using this,fun i c' v' h1 h2=>h.2 (i+1) c' v' (by simpa using h1) (by simpa using h2)⟩⟩
theorem Rl.get(h:Rl m φ cs vs){i:Nat}(hc:cs[i]?=some c):∃v,vs[i]?=some v∧R m φ c v:=by
 have hi:=(List.getElem?_eq_some_iff.1 hc).1;have hv:vs[i]?=some (vs[i]'(by have:=h.1;omega)):=List.getElem?_eq_getElem _
 exact⟨_,hv,h.2 i c _ hc hv⟩
theorem Rl.append{as bs:List PV}{us:List Value}(h:Rl m φ as us)(k:Rl m φ bs vs):Rl m φ (as++bs) (us++vs):=by
 refine⟨by simp[h.1,k.1],fun i c v h1 h2=>?_⟩
 by_cases hi:i<as.length
 ·rw[List.getElem?_append_left hi] at h1;rw[List.getElem?_append_left (by have:=h.1;omega)] at h2
  exact h.2 i c v h1 h2
 ·rw[List.getElem?_append_right (by omega)] at h1
  rw[List.getElem?_append_right (by have:=h.1;omega),←h.1] at h2
  exact k.2 _ c v h1 h2
theorem Rl.take(h:Rl m φ cs vs)(k:Nat):Rl m φ (cs.take k) (vs.take k):=by
 refine⟨by simp[h.1],fun i c v h1 h2=>?_⟩
 rw[List.getElem?_take] at h1 h2;split at h1
 ·rename_i hi;rw[if_pos hi] at h2;exact h.2 i c v h1 h2
 ·cases h1
theorem Rl.drop(h:Rl m φ cs vs)(k:Nat):Rl m φ (cs.drop k) (vs.drop k):=by
 refine⟨by simp[h.1],fun i c v h1 h2=>?_⟩
 rw[List.getElem?_drop] at h1 h2;exact h.2 _ c v h1 h2
def Le(φ φ':Ph):Prop:=∀id,(∀b,φ id=some (.blk b)→φ' id=some (.blk b))∧∀sv n sz,φ id=some (.row sv n sz)→∃sv' n',φ' id=some (.row sv' n' sz)∧((n'=n∧sv'=sv)∨n<n')
theorem Le.refl(φ:Ph):Le φ φ:=fun id=>⟨fun _ h=>h,fun sv n sz h=>⟨sv,n,h,.inl ⟨rfl,rfl⟩⟩⟩
variable{φ':Ph}
theorem Le.trans{φ'':Ph}(h:Le φ φ')(k:Le φ' φ''):Le φ φ'':=fun id=>⟨fun b e=>(k id).1 b ((h id).1 b e),fun sv n sz e=>by
 obtain⟨sv',n',h1,h2⟩:=(h id).2 sv n sz e;obtain⟨sv'',n'',h3,h4⟩:=(k id).2 sv' n' sz h1;refine⟨sv'',n'',h3,?_⟩;rcases h2 with⟨rfl,rfl⟩|h2
 ·exact h4
 ·rcases h4 with⟨rfl,rfl⟩|h4
  ·exact .inr h2
  ·exact .inr (Nat.lt_trans h2 h4)⟩
theorem Le.none(φ:Ph):Le noPh φ:=fun id=>⟨fun b h=>by simp[noPh] at h,fun sv n sz h=>by simp[noPh] at h⟩
theorem R.mono(hm:Mem.le m m')(h:R m φ x v):∀{φ':Ph},Le φ φ'→R m' φ' x v:=by
 induction h with
 |sc h=>intro φ' _;exact .sc h
 |ag hl hc _ ih=>intro φ' hle;exact .ag hl hc fun i c v h1 h2=>ih i c v h1 h2 hle
 |tu hl _ ih=>intro φ' hle;exact .tu hl fun i c v h1 h2=>ih i c v h1 h2 hle
 |sl b off g ha hcap hmax hfull hel hr hnil ih=>
  intro φ' _;exact .sl b off g ha hcap hmax hfull (fun i x hx=>⟨(hel i x hx).1,(hel i x hx).2.1,(hel i x hx).2.2.1.mono hm,(hel i x hx).2.2.2⟩) (fun i x j c v h1 h2 h3=>ih i x j c v h1 h2 h3 (Le.refl _)) hnil
 |ms hφ hle hv hs=>
  intro φ' hl;obtain⟨sv',n',h1,h2⟩:=(hl _).2 _ _ _ hφ;rcases h2 with⟨rfl,rfl⟩|h2
  ·exact .ms h1 hle hv hs
  ·exact .ms h1 (by omega) (fun e=>absurd e (by omega)) hs
 |bp hφ=>intro φ' hl;exact .bp ((hl _).1 _ hφ)
 |rp hφ hle hv hp=>
  intro φ' hl;obtain⟨sv',n',h1,h2⟩:=(hl _).2 _ _ _ hφ;rcases h2 with⟨rfl,rfl⟩|h2
  ·exact .rp h1 hle hv hp
  ·exact .rp h1 (by omega) (fun e=>absurd e (by omega)) hp
 |cp hl hrd hc _ ih=>intro φ' _;exact .cp hl (hrd.mono hm) hc fun i c v h1 h2=>ih i c v h1 h2 (Le.refl _)
 |ci hl hrd hc _ ih=>intro φ' hle;exact .ci hl (hrd.mono hm) hc fun i c v h1 h2=>ih i c v h1 h2 hle
 |fn hl hl' _ _ ih ih'=>intro φ' hle;exact .fn hl hl' (fun i c v h1 h2=>ih i c v h1 h2 hle) (fun i c v h1 h2=>ih' i c v h1 h2 hle)
 |ifc _ ih=>intro φ' hle;exact .ifc (ih hle)
 |yl hφ=>intro φ' hl;exact .yl ((hl _).1 _ hφ)
 |mr hφ=>intro φ' hl;exact .mr ((hl _).1 _ hφ)
 |cr hφ=>intro φ' hl;exact .cr ((hl _).1 _ hφ)
 |un h=>intro φ' _;exact .un h
theorem Rl.mono(hm:Mem.le m m')(hle:Le φ φ')(h:Rl m φ cs vs):Rl m' φ' cs vs:=
 ⟨h.1,fun i c v h1 h2=>(h.2 i c v h1 h2).mono hm hle⟩
theorem pur_up:∀{n:Nat}{x:PV},pur n x=true→pur (n+1) x=true
 |0,_,h=>by simp[pur] at h
 |n+1,x,h=>by
  have hall:∀{l:List PV},l.all (pur n)=true→l.all (pur (n+1))=true:=fun hl=>List.all_eq_true.2 fun c hc=>pur_up (List.all_eq_true.1 hl c hc)
  cases x with
  |ag cs=>simp only[pur] at h;unfold pur;exact hall h
  |tu cs=>simp only[pur] at h;unfold pur;exact hall h
  |fn f a b=>simp only[pur,Bool.and_eq_true] at h;unfold pur;simp only[Bool.and_eq_true];exact⟨hall h.1,hall h.2⟩
  |ifc t x=>simp only[pur] at h;unfold pur;exact pur_up h
  |_=>first|(simp[pur] at h;done)|(simp[pur];done)
theorem R.pure{m:Mem}:∀(n:Nat) {φ:Ph}{x:PV}{v:Value},pur n x=true→R m φ x v→R m noPh x v
 |0,_,_,_,h,_=>by simp[pur] at h
 |n+1,φ,x,v,h,hr=>by
  have hall:∀{l:List PV}{ws:List Value},l.all (pur n)=true→(∀(i:Nat) c v,l[i]?=some c→ws[i]?=some v→R m φ c v)→∀(i:Nat) c v,l[i]?=some c→ws[i]?=some v→R m noPh c v:=fun hl hi i c v h1 h2=>
   R.pure n (List.all_eq_true.1 hl c (List.mem_of_getElem? h1)) (hi i c v h1 h2)
  cases hr with
  |sc h1=>exact .sc h1
  |ag hl hc hi=>simp only[pur] at h;exact .ag hl hc (hall h hi)
  |tu hl hi=>simp only[pur] at h;exact .tu hl (hall h hi)
  |sl b off g ha hcap hmax hfull hel hr hnil=>exact .sl b off g ha hcap hmax hfull hel hr hnil
  |ms=>simp[pur] at h
  |bp=>simp[pur] at h
  |rp=>simp[pur] at h
  |yl=>simp[pur] at h
  |mr=>simp[pur] at h
  |cr=>simp[pur] at h
  |un h=>exact .un h
  |cp hl hrd hc hi=>exact .cp hl hrd hc hi
  |ci=>simp[pur] at h
  |fn hl hl' hi hi'=>simp only[pur,Bool.and_eq_true] at h;exact .fn hl hl' (hall h.1 hi) (hall h.2 hi')
  |ifc hi=>simp only[pur] at h;exact .ifc (R.pure n h hi)
theorem Rl.pure{n:Nat}(h:cs.all (pur n)=true)(hr:Rl m φ cs vs):Rl m noPh cs vs:=
 ⟨hr.1,fun i c v h1 h2=>R.pure n (List.all_eq_true.1 h c (List.mem_of_getElem? h1)) (hr.2 i c v h1 h2)⟩
theorem R.any(h:R m noPh x v):R m φ x v:=h.mono (Mem.le.refl m) (Le.none φ)
theorem Rl.any(h:Rl m noPh cs vs):Rl m φ cs vs:=h.mono (Mem.le.refl m) (Le.none φ)
theorem inIds_up{f:Nat→Bool}:∀{n:Nat}{x:PV},inIds f n x=true→inIds f (n+1) x=true
 |0,_,h=>by simp[inIds] at h
 |n+1,x,h=>by
  have hall:∀{l:List PV},l.all (inIds f n)=true→l.all (inIds f (n+1))=true:=fun hl=>List.all_eq_true.2 fun c hc=>inIds_up (List.all_eq_true.1 hl c hc)
  cases x with
  |ag cs=>simp only[inIds] at h;unfold inIds;exact hall h
  |tu cs=>simp only[inIds] at h;unfold inIds;exact hall h
  |ci cs=>simp only[inIds] at h;unfold inIds;exact hall h
  |fn g a b=>simp only[inIds,Bool.and_eq_true] at h;unfold inIds;simp only[Bool.and_eq_true];exact⟨hall h.1,hall h.2⟩
  |ifc t x=>simp only[inIds] at h;unfold inIds;exact inIds_up h
  |_=>first|(simp only[inIds] at h⊢;exact h)|(simp[inIds];done)
def only(f:Nat→Bool)(φ:Ph):Ph:=fun id=>match f id with
 |true=>φ id
 |false=>none
theorem R.only{m:Mem}(f:Nat→Bool):∀(n:Nat) {φ:Ph}{x:PV}{v:Value},inIds f n x=true→R m φ x v→R m (only f φ) x v
 |0,_,_,_,h,_=>by simp[inIds] at h
 |n+1,φ,x,v,h,hr=>by
  have hall:∀{l:List PV}{ws:List Value},l.all (inIds f n)=true→(∀(i:Nat) c v,l[i]?=some c→ws[i]?=some v→R m φ c v)→∀(i:Nat) c v,l[i]?=some c→ws[i]?=some v→R m (Am.only f φ) c v:=fun hl hi i c v h1 h2=>
   R.only f n (List.all_eq_true.1 hl c (List.mem_of_getElem? h1)) (hi i c v h1 h2)
  cases hr with
  |sc h1=>exact .sc h1
  |ag hl hc hi=>simp only[inIds] at h;exact .ag hl hc (hall h hi)
  |tu hl hi=>simp only[inIds] at h;exact .tu hl (hall h hi)
  |sl b off g ha hcap hmax hfull hel hr hnil=>exact .sl b off g ha hcap hmax hfull hel hr hnil
  |ms hφ hle hv hs=>simp only[inIds] at h;exact .ms ((by simp[Am.only,h]:Am.only f φ _=φ _).trans hφ) hle hv hs
  |bp hφ=>simp only[inIds] at h;exact .bp ((by simp[Am.only,h]:Am.only f φ _=φ _).trans hφ)
  |rp hφ hle hv hp=>simp only[inIds] at h;exact .rp ((by simp[Am.only,h]:Am.only f φ _=φ _).trans hφ) hle hv hp
  |cp hl hrd hc hi=>exact .cp hl hrd hc hi
  |ci hl hrd hc hi=>simp only[inIds] at h;exact .ci hl hrd hc (hall h hi)
  |fn hl hl' hi hi'=>simp only[inIds,Bool.and_eq_true] at h;exact .fn hl hl' (hall h.1 hi) (hall h.2 hi')
  |ifc hi=>simp only[inIds] at h;exact .ifc (R.only f n h hi)
  |yl hφ=>simp only[inIds] at h;exact .yl ((by simp[Am.only,h]:Am.only f φ _=φ _).trans hφ)
  |mr hφ=>simp only[inIds] at h;exact .mr ((by simp[Am.only,h]:Am.only f φ _=φ _).trans hφ)
  |cr hφ=>simp only[inIds] at h;exact .cr ((by simp[Am.only,h]:Am.only f φ _=φ _).trans hφ)
  |un h=>exact .un h
theorem Rl.only{m:Mem}{f:Nat→Bool}{n:Nat}{φ:Ph}{cs:List PV}{vs:List Value}(h:cs.all (inIds f n)=true)(hr:Rl m φ cs vs):Rl m (only f φ) cs vs:=
 ⟨hr.1,fun i c v h1 h2=>R.only f n (List.all_eq_true.1 h c (List.mem_of_getElem? h1)) (hr.2 i c v h1 h2)⟩
theorem R.one(h:R m φ x v)(hc:cell x=true):v.oneCell'=true:=by
 cases h with
 |sc h=>cases v<;>simp[isSc] at h<;>simp[Value.oneCell']
 |ag=>simp[cell] at hc
 |tu=>simp[cell] at hc
 |ms _ _ _ hs=>obtain⟨a,l,c,rfl⟩:=hs;simp[Value.oneCell']
 |rp _ _ _ hp=>obtain⟨_,_,rfl⟩:=hp;simp[Value.oneCell']
 |un h=>exact h
 |_=>simp[Value.oneCell']
end Go.Am

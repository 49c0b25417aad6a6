/- How the plain machine's values lie in memory. Plain definitions and lemmas, no statement of the seat. -/
import Derived.Test.YtbnodhcijeaceaaGreatDoorZAm
set_option linter.all false
namespace Go.Am
open Go Go.Hb
def RdN(m:Mem)(b off:Nat)(vs:List Value):Prop:=∀j v,vs[j]?=some v→m b (off+j)=some v
variable{cs:List PV}{vs:List Value}{m m':Mem}{i:Nat}{c x:PV}{α β:Type}{v:Value}
theorem RdN.mono{b off:Nat}(h:RdN m b off vs)(hle:Mem.le m m'):RdN m' b off vs:=fun j v hv=>hle _ _ _ (h j v hv)
inductive Phi where
 |blk (b:Nat)
 |row (sv:Value) (n sz:Nat)
abbrev Ph:=Nat→Option Phi
def noPh:Ph:=fun _=>none
inductive R (m:Mem):Ph→PV→Value→Prop where
 |sc {φ:Ph}{v:Value}(h:isSc v=true):R m φ (.sc v) v
 |ag {φ:Ph}{cs:List PV}{vs:List Value}(hl:cs.length=vs.length) (hc:cs.all cell=true) (h:∀(i:Nat) c v,cs[i]?=some c→vs[i]?=some v→R m φ c v):R m φ (.ag cs) (.agg vs.toArray)
 |tu {φ:Ph}{cs:List PV}{vs:List Value}(hl:cs.length=vs.length) (h:∀(i:Nat) c v,cs[i]?=some c→vs[i]?=some v→R m φ c v):R m φ (.tu cs) (.tuple vs.toArray)
 |sl {φ:Ph}{full:Bool}{sz:Nat}{xs:List PV}{a:Option Addr}{cap:Nat}(b off:Nat) (g:Nat→List Value) (ha:xs≠[]→a=some ⟨b,off,none⟩) (hcap:xs.length≤cap) (hmax:cap≤maxLen) (hfull:full=true→cap=xs.length)
   (hel:∀(i:Nat) x,xs[i]?=some x→x.cells.length=sz∧(g i).length=sz∧RdN m b (off+i*sz) (g i)∧x.cells.all cell=true)
   (hr:∀(i:Nat) x (j:Nat) c v,xs[i]?=some x→x.cells[j]?=some c→(g i)[j]?=some v→R m noPh c v) (hnil:full=true→sz=0→a=none):R m φ (.sl full sz xs) (.slice a xs.length cap)
 |ms {φ:Ph}{id len n sz:Nat}{sv v:Value}(hφ:φ id=some (.row sv n sz)) (hle:len≤n) (hv:len=n→v=sv) (hs:∃a l c,v=.slice a l c):R m φ (.ms id len) v
 |bp {φ:Ph}{id off b:Nat}(hφ:φ id=some (.blk b)):R m φ (.bp id off) (.pointer (some ⟨b,off,none⟩))
 |rp {φ:Ph}{id len i off n sz:Nat}{sv v:Value}(hφ:φ id=some (.row sv n sz)) (hle:len≤n) (hv:len=n→∃b cap,sv=.slice (some ⟨b,0,none⟩) n cap∧v=.pointer (some ⟨b,i*sz+off,none⟩)) (hp:∃b o,v=.pointer (some ⟨b,o,none⟩)):R m φ (.rp id len i off) v
 |cp {φ:Ph}{cs:List PV}{b off:Nat}{vs:List Value}(hl:cs.length=vs.length) (hrd:RdN m b off vs) (hc:cs.all cell=true) (h:∀(i:Nat) c v,cs[i]?=some c→vs[i]?=some v→R m noPh c v):R m φ (.cp cs) (.pointer (some ⟨b,off,none⟩))
 |ci {φ:Ph}{cs:List PV}{b off:Nat}{vs:List Value}(hl:cs.length=vs.length) (hrd:RdN m b off vs) (hc:cs.all cell=true) (h:∀(i:Nat) c v,cs[i]?=some c→vs[i]?=some v→R m φ c v):R m φ (.ci cs) (.pointer (some ⟨b,off,none⟩))
 |fn {φ:Ph}{f:FuncId}{as bs:List PV}{us vs:List Value}(hl:as.length=us.length) (hl':bs.length=vs.length) (h:∀(i:Nat) c v,as[i]?=some c→us[i]?=some v→R m φ c v) (h':∀(i:Nat) c v,bs[i]?=some c→vs[i]?=some v→R m φ c v):R m φ (.fn f as bs) (.func (.func f) us.toArray vs.toArray)
 |ifc {φ:Ph}{t:TypeId}{x:PV}{v:Value}(h:R m φ x v):R m φ (.ifc t x) (.iface t v)
 |yl {φ:Ph}{id l:Nat}(hφ:φ id=some (.blk l)):R m φ (.yl id) (.func (.yield l) #[] #[])
 |mr {φ:Ph}{id b:Nat}(hφ:φ id=some (.blk b)):R m φ (.mr id) (.map (some b))
 |cr {φ:Ph}{id b:Nat}(hφ:φ id=some (.blk b)):R m φ (.cr id) (.chan (some b))
 |un {φ:Ph}{v:Value}(h:v.oneCell'=true):R m φ .un v
def Rl(m:Mem)(φ:Ph)(cs:List PV)(vs:List Value):Prop:=cs.length=vs.length∧∀(i:Nat) c v,cs[i]?=some c→vs[i]?=some v→R m φ c v
variable{φ:Ph}
theorem Rl.nil:Rl m φ [] []:=⟨rfl,fun i c v h=>by simp at h⟩
theorem Rl.cons(h:R m φ c v)(hs:Rl m φ cs vs):Rl m φ (c::cs) (v::vs):=by
 refine⟨by simp[hs.1],fun i c' v' h1 h2=>?_⟩
 cases i with
 |zero=>simp at h1 h2;subst h1;subst h2;exact h
 |succ i=>exact hs.2 i c' v' (by simpa using h1) (by simpa using h2)
theorem Rl.uncons{ws:List Value}(h:Rl m φ (c::cs) ws):∃v vs,ws=v::vs∧R m φ c v∧Rl m φ cs vs:=by
 cases ws with
 |nil=>exact absurd h.1 (by simp)
 |cons v vs=>exact⟨v,vs,rfl,h.2 0 c v rfl rfl,⟨by have:=h.1;simpa using this,fun i c' v' h1 h2=>h.2 (i+1) c' v' (by simpa using h1) (by simpa using h2)⟩⟩
theorem Rl.get(h:Rl m φ cs vs)(hc:cs[i]?=some c):∃v,vs[i]?=some v∧R m φ c v:=by
 have hi:=(List.getElem?_eq_some_iff.1 hc).1;have hv:vs[i]?=some (vs[i]'(by have:=h.1;omega)):=List.getElem?_eq_getElem _
 exact⟨_,hv,h.2 i c _ hc hv⟩
theorem Rl.append{as bs:List PV}{us:List Value}(h:Rl m φ as us)(k:Rl m φ bs vs):Rl m φ (as++bs) (us++vs):=by
 refine⟨by simp[h.1,k.1],fun i c v h1 h2=>?_⟩
 by_cases hi:i<as.length
 ·rw[List.getElem?_append_left hi] at h1;rw[List.getElem?_append_left (by have:=h.1;omega)] at h2
  exact h.2 i c v h1 h2
 ·rw[List.getElem?_append_right (by omega)] at h1
  rw[List.getElem?_append_right (by have:=h.1;omega),←h.1] at h2
  exact k.2 _ c v h1 h2
theorem Rl.take(h:Rl m φ cs vs)(k:Nat):Rl m φ (cs.take k) (vs.take k):=by
 refine⟨by simp[h.1],fun i c v h1 h2=>?_⟩
 rw[List.getElem?_take] at h1 h2;split at h1
 ·rename_i hi;rw[if_pos hi] at h2;exact h.2 i c v h1 h2
 ·cases h1
theorem Rl.drop(h:Rl m φ cs vs)(k:Nat):Rl m φ (cs.drop k) (vs.drop k):=by
 refine⟨by simp[h.1],fun i c v h1 h2=>?_⟩
 rw[List.getElem?_drop] at h1 h2;exact h.2 _ c v h1 h2
def Le(φ φ':Ph):Prop:=∀id,(∀b,φ id=some (.blk b)→φ' id=some (.blk b))∧∀sv n sz,φ id=some (.row sv n sz)→∃sv' n',φ' id=some (.row sv' n' sz)∧((n'=n∧sv'=sv)∨n<n')
theorem Le.refl(φ:Ph):Le φ φ:=fun id=>⟨fun _ h=>h,fun sv n sz h=>⟨sv,n,h,.inl ⟨rfl,rfl⟩⟩⟩
variable{φ':Ph}
theorem Le.trans{φ'':Ph}(h:Le φ φ')(k:Le φ' φ''):Le φ φ'':=fun id=>⟨fun b e=>(k id).1 b ((h id).1 b e),fun sv n sz e=>by
 obtain⟨sv',n',h1,h2⟩:=(h id).2 sv n sz e;obtain⟨sv'',n'',h3,h4⟩:=(k id).2 sv' n' sz h1;refine⟨sv'',n'',h3,?_⟩;rcases h2 with⟨rfl,rfl⟩|h2
 ·exact h4
 ·rcases h4 with⟨rfl,rfl⟩|h4
  ·exact .inr h2
  ·exact .inr (Nat.lt_trans h2 h4)⟩
theorem Le.none(φ:Ph):Le noPh φ:=fun id=>⟨fun b h=>by simp[noPh] at h,fun sv n sz h=>by simp[noPh] at h⟩
theorem R.mono(hm:Mem.le m m')(h:R m φ x v):∀{φ':Ph},Le φ φ'→R m' φ' x v:=by
 induction h with
 |sc h=>intro φ' _;exact .sc h
 |ag hl hc _ ih=>intro φ' hle;exact .ag hl hc fun i c v h1 h2=>ih i c v h1 h2 hle
 |tu hl _ ih=>intro φ' hle;exact .tu hl fun i c v h1 h2=>ih i c v h1 h2 hle
 |sl b off g ha hcap hmax hfull hel hr hnil ih=>
  intro φ' _;exact .sl b off g ha hcap hmax hfull (fun i x hx=>⟨(hel i x hx).1,(hel i x hx).2.1,(hel i x hx).2.2.1.mono hm,(hel i x hx).2.2.2⟩) (fun i x j c v h1 h2 h3=>ih i x j c v h1 h2 h3 (Le.refl _)) hnil
 |ms hφ hle hv hs=>
  intro φ' hl;obtain⟨sv',n',h1,h2⟩:=(hl _).2 _ _ _ hφ;rcases h2 with⟨rfl,rfl⟩|h2
  ·exact .ms h1 hle hv hs
  ·exact .ms h1 (by omega) (fun e=>absurd e (by omega)) hs
 |bp hφ=>intro φ' hl;exact .bp ((hl _).1 _ hφ)
 |rp hφ hle hv hp=>
  intro φ' hl;obtain⟨sv',n',h1,h2⟩:=(hl _).2 _ _ _ hφ;rcases h2 with⟨rfl,rfl⟩|h2
  ·exact .rp h1 hle hv hp
  ·exact .rp h1 (by omega) (fun e=>absurd e (by omega)) hp
 |cp hl hrd hc _ ih=>intro φ' _;exact .cp hl (hrd.mono hm) hc fun i c v h1 h2=>ih i c v h1 h2 (Le.refl _)
 |ci hl hrd hc _ ih=>intro φ' hle;exact .ci hl (hrd.mono hm) hc fun i c v h1 h2=>ih i c v h1 h2 hle
 |fn hl hl' _ _ ih ih'=>intro φ' hle;exact .fn hl hl' (fun i c v h1 h2=>ih i c v h1 h2 hle) (fun i c v h1 h2=>ih' i c v h1 h2 hle)
 |ifc _ ih=>intro φ' hle;exact .ifc (ih hle)
 |yl hφ=>intro φ' hl;exact .yl ((hl _).1 _ hφ)
 |mr hφ=>intro φ' hl;exact .mr ((hl _).1 _ hφ)
 |cr hφ=>intro φ' hl;exact .cr ((hl _).1 _ hφ)
 |un h=>intro φ' _;exact .un h
theorem Rl.mono(hm:Mem.le m m')(hle:Le φ φ')(h:Rl m φ cs vs):Rl m' φ' cs vs:=
 ⟨h.1,fun i c v h1 h2=>(h.2 i c v h1 h2).mono hm hle⟩
theorem jde:∀{n:Nat}{x:PV},pur n x=true→pur (n+1) x=true
 |0,_,h=>by simp[pur] at h
 |n+1,x,h=>by
  have hall:∀{l:List PV},l.all (pur n)=true→l.all (pur (n+1))=true:=fun hl=>List.all_eq_true.2 fun c hc=>jde (List.all_eq_true.1 hl c hc)
  cases x with
  |ag cs=>simp only[pur] at h;unfold pur;exact hall h
  |tu cs=>simp only[pur] at h;unfold pur;exact hall h
  |fn f a b=>simp only[pur,Bool.and_eq_true] at h;unfold pur;simp only[Bool.and_eq_true];exact⟨hall h.1,hall h.2⟩
  |ifc t x=>simp only[pur] at h;unfold pur;exact jde h
  |_=>first|(simp[pur] at h;done)|(simp[pur];done)
theorem R.pure{m:Mem}:∀(n:Nat) {φ:Ph}{x:PV}{v:Value},pur n x=true→R m φ x v→R m noPh x v
 |0,_,_,_,h,_=>by simp[pur] at h
 |n+1,φ,x,v,h,hr=>by
  have hall:∀{l:List PV}{ws:List Value},l.all (pur n)=true→(∀(i:Nat) c v,l[i]?=some c→ws[i]?=some v→R m φ c v)→∀(i:Nat) c v,l[i]?=some c→ws[i]?=some v→R m noPh c v:=fun hl hi i c v h1 h2=>
   R.pure n (List.all_eq_true.1 hl c (List.mem_of_getElem? h1)) (hi i c v h1 h2)
  cases hr with
  |sc h1=>exact .sc h1
  |ag hl hc hi=>simp only[pur] at h;exact .ag hl hc (hall h hi)
  |tu hl hi=>simp only[pur] at h;exact .tu hl (hall h hi)
  |sl b off g ha hcap hmax hfull hel hr hnil=>exact .sl b off g ha hcap hmax hfull hel hr hnil
  |ms=>simp[pur] at h
  |bp=>simp[pur] at h
  |rp=>simp[pur] at h
  |yl=>simp[pur] at h
  |mr=>simp[pur] at h
  |cr=>simp[pur] at h
  |un h=>exact .un h
  |cp hl hrd hc hi=>exact .cp hl hrd hc hi
  |ci=>simp[pur] at h
  |fn hl hl' hi hi'=>simp only[pur,Bool.and_eq_true] at h;exact .fn hl hl' (hall h.1 hi) (hall h.2 hi')
  |ifc hi=>simp only[pur] at h;exact .ifc (R.pure n h hi)
theorem Rl.pure{n:Nat}(h:cs.all (pur n)=true)(hr:Rl m φ cs vs):Rl m noPh cs vs:=
 ⟨hr.1,fun i c v h1 h2=>R.pure n (List.all_eq_true.1 h c (List.mem_of_getElem? h1)) (hr.2 i c v h1 h2)⟩
theorem R.any(h:R m noPh x v):R m φ x v:=h.mono (Mem.le.refl m) (Le.none φ)
theorem Rl.any(h:Rl m noPh cs vs):Rl m φ cs vs:=h.mono (Mem.le.refl m) (Le.none φ)
theorem jeh{f:Nat→Bool}:∀{n:Nat}{x:PV},j0e f n x=true→j0e f (n+1) x=true
 |0,_,h=>by simp[j0e] at h
 |n+1,x,h=>by
  have hall:∀{l:List PV},l.all (j0e f n)=true→l.all (j0e f (n+1))=true:=fun hl=>List.all_eq_true.2 fun c hc=>jeh (List.all_eq_true.1 hl c hc)
  cases x with
  |ag cs=>simp only[j0e] at h;unfold j0e;exact hall h
  |tu cs=>simp only[j0e] at h;unfold j0e;exact hall h
  |ci cs=>simp only[j0e] at h;unfold j0e;exact hall h
  |fn g a b=>simp only[j0e,Bool.and_eq_true] at h;unfold j0e;simp only[Bool.and_eq_true];exact⟨hall h.1,hall h.2⟩
  |ifc t x=>simp only[j0e] at h;unfold j0e;exact jeh h
  |_=>first|(simp only[j0e] at h⊢;exact h)|(simp[j0e];done)
def only(f:Nat→Bool)(φ:Ph):Ph:=fun id=>match f id with
 |true=>φ id
 |false=>none
theorem R.only{m:Mem}(f:Nat→Bool):∀(n:Nat) {φ:Ph}{x:PV}{v:Value},j0e f n x=true→R m φ x v→R m (only f φ) x v
 |0,_,_,_,h,_=>by simp[j0e] at h
 |n+1,φ,x,v,h,hr=>by
  have hall:∀{l:List PV}{ws:List Value},l.all (j0e f n)=true→(∀(i:Nat) c v,l[i]?=some c→ws[i]?=some v→R m φ c v)→∀(i:Nat) c v,l[i]?=some c→ws[i]?=some v→R m (Am.only f φ) c v:=fun hl hi i c v h1 h2=>
   R.only f n (List.all_eq_true.1 hl c (List.mem_of_getElem? h1)) (hi i c v h1 h2)
  cases hr with
  |sc h1=>exact .sc h1
  |ag hl hc hi=>simp only[j0e] at h;exact .ag hl hc (hall h hi)
  |tu hl hi=>simp only[j0e] at h;exact .tu hl (hall h hi)
  |sl b off g ha hcap hmax hfull hel hr hnil=>exact .sl b off g ha hcap hmax hfull hel hr hnil
  |ms hφ hle hv hs=>simp only[j0e] at h;exact .ms ((by simp[Am.only,h]:Am.only f φ _=φ _).trans hφ) hle hv hs
  |bp hφ=>simp only[j0e] at h;exact .bp ((by simp[Am.only,h]:Am.only f φ _=φ _).trans hφ)
  |rp hφ hle hv hp=>simp only[j0e] at h;exact .rp ((by simp[Am.only,h]:Am.only f φ _=φ _).trans hφ) hle hv hp
  |cp hl hrd hc hi=>exact .cp hl hrd hc hi
  |ci hl hrd hc hi=>simp only[j0e] at h;exact .ci hl hrd hc (hall h hi)
  |fn hl hl' hi hi'=>simp only[j0e,Bool.and_eq_true] at h;exact .fn hl hl' (hall h.1 hi) (hall h.2 hi')
  |ifc hi=>simp only[j0e] at h;exact .ifc (R.only f n h hi)
  |yl hφ=>simp only[j0e] at h;exact .yl ((by simp[Am.only,h]:Am.only f φ _=φ _).trans hφ)
  |mr hφ=>simp only[j0e] at h;exact .mr ((by simp[Am.only,h]:Am.only f φ _=φ _).trans hφ)
  |cr hφ=>simp only[j0e] at h;exact .cr ((by simp[Am.only,h]:Am.only f φ _=φ _).trans hφ)
  |un h=>exact .un h
theorem Rl.only{m:Mem}{f:Nat→Bool}{n:Nat}{φ:Ph}{cs:List PV}{vs:List Value}(h:cs.all (j0e f n)=true)(hr:Rl m φ cs vs):Rl m (only f φ) cs vs:=
 ⟨hr.1,fun i c v h1 h2=>R.only f n (List.all_eq_true.1 h c (List.mem_of_getElem? h1)) (hr.2 i c v h1 h2)⟩
theorem R.one(h:R m φ x v)(hc:cell x=true):v.oneCell'=true:=by
 cases h with
 |sc h=>cases v<;>simp[isSc] at h<;>simp[Value.oneCell']
 |ag=>simp[cell] at hc
 |tu=>simp[cell] at hc
 |ms _ _ _ hs=>obtain⟨a,l,c,rfl⟩:=hs;simp[Value.oneCell']
 |rp _ _ _ hp=>obtain⟨_,_,rfl⟩:=hp;simp[Value.oneCell']
 |un h=>exact h
 |_=>simp[Value.oneCell']
open Go Go.Hb
open Go.Gw (tk tf tz tsl tar tpl isAggD)
theorem j3D{P:Program}(w:World):∀{s:Sem α}{a:α},qrun P s=some a→s.run P w=.ok a w:=by
 intro s
 induction s with
 |pure b=>intro a h;simp[qrun] at h;subst h;simp[Sem.run]
 |program k ih=>intro a h;simp only[qrun] at h;simp only[Sem.run];exact ih P h
 |mark m k ih=>intro a h;simp only[qrun] at h;simp only[Sem.run];exact ih h
 |_=>intro a h;simp[qrun] at h
theorem j4I{f:α→Option β}{x:α}{l:List α}{r:List β}(h:mapO f (x::l)=some r):∃y r',r=y::r'∧f x=some y∧mapO f l=some r':=by
 simp only[mapO] at h;cases hf:f x with
 |none=>simp[hf] at h
 |some y=>
  cases hl:mapO f l with
  |none=>simp[hf,hl] at h
  |some r'=>simp[hf,hl] at h;exact⟨y,r',h.symm,rfl,rfl⟩
theorem j1P{α β:Type}{f:α→Option β}:∀{l:List α}{r:List β},mapO f l=some r→r.length=l.length
 |[],r,h=>by simp[mapO] at h;subst h;rfl
 |x::l,r,h=>by
  obtain⟨y,r',rfl,_,h2⟩:=j4I h;simp[j1P h2]
theorem j8p{α β:Type}{f:α→Option β}:∀{l:List α}{r:List β},mapO f l=some r→∀(i:Nat) x,l[i]?=some x→∃y,r[i]?=some y∧f x=some y
 |[],r,h,i,x,hx=>by simp at hx
 |z::l,r,h,i,x,hx=>by
  obtain⟨y,r',rfl,hy,hl⟩:=j4I h;cases i with
  |zero=>simp at hx;subst hx;exact⟨y,rfl,hy⟩
  |succ i=>simpa using j8p hl i x (by simpa using hx)
theorem j8o{f:α→Option β}{l:List α}{r:List β}(h:mapO f l=some r){y:β}(hy:r[i]?=some y):∃x,l[i]?=some x∧f x=some y:=by
 have hi:=(List.getElem?_eq_some_iff.1 hy).1;rw[j1P h] at hi;obtain⟨y',h1,h2⟩:=j8p h i l[i] (List.getElem?_eq_getElem hi);rw[hy] at h1;cases h1;exact⟨_,List.getElem?_eq_getElem hi,h2⟩
section
variable{P:Program}{m:Mem}{φ:Ph}{ρ:AEnv}{a:Act}{w:World}
variable{op:BinOp}{r:Bool}{xs:List PV}{q sz:Nat}{x y:Operand}{u:PV}{T d s:TypeId}{v:Value}
theorem jeA{x:PV}(h:j9S v=some x):R m φ x v∧cell x=true:=by
 unfold j9S at h;split at h
 ·cases h;exact⟨.sl (xs:=[]) 0 0 (fun _=>[]) (fun e=>absurd rfl e) (Nat.le_refl _) (by decide) (fun _=>rfl) (fun i x hx=>by simp at hx) (fun i x j c v hx=>by simp at hx) (fun _ _=>rfl),rfl⟩
 ·split at h
  ·rename_i hs;cases h;exact⟨.sc hs,rfl⟩
  ·cases h
theorem j3X{vs:List Value}{cs:List PV}(h:mapO j9S vs=some cs):Rl m φ cs vs∧cs.all cell=true:=by
 refine⟨⟨j1P h,fun i c v hc hv=>?_⟩,List.all_eq_true.2 fun c hc=>?_⟩
 ·obtain⟨y,h1,h2⟩:=j8p h i v hv;rw[hc] at h1;cases h1;exact(jeA h2).1
 ·obtain⟨i,hi⟩:=List.getElem?_of_mem hc;obtain⟨v,_,h2⟩:=j8o h hi;exact(jeA (m:=m) (φ:=φ) h2).2
theorem j3Y{x:PV}(h:j6s v=some x):R m φ x v:=by
 unfold j6s at h;split at h
 ·rename_i cs;cases hc:mapO j9S cs.toList with
  |none=>simp[hc] at h
  |some l=>
   simp only[hc,Option.map_some,Option.some.injEq] at h;subst h;obtain⟨h1,h2⟩:=j3X (m:=m) (φ:=φ) hc;have:=R.ag h1.1 h2 h1.2;simpa using this
 ·exact(jeA h).1
theorem R.sc_eq{u:Value}(h:R m φ (.sc v) u):u=v:=by cases h;rfl
theorem joD{x:PV}{u:Value}(h:scOf x=some v)(hr:R m φ x u):u=v:=by
 unfold scOf at h;split at h
 ·cases h;exact hr.sc_eq
 ·cases h
theorem jk1{x:PV}{u:Value}(h:j6E x=some v)(hr:R m φ x u):u=v:=by
 unfold j6E at h;split at h
 ·cases h;exact hr.sc_eq
 ·rename_i cs;cases hc:mapO scOf cs with
  |none=>simp[hc] at h
  |some l=>
   simp only[hc,Option.map_some,Option.some.injEq] at h;subst h;cases hr with
   | @ag _ _ vs hl _ hi=>
    have:l=vs:=by
     apply List.ext_getElem?
     intro i;cases hv:vs[i]? with
     |none=>
      have:vs.length≤i:=List.getElem?_eq_none_iff.1 hv;exact List.getElem?_eq_none_iff.2 (by rw[j1P hc];omega)
     |some v=>
      have hi':=(List.getElem?_eq_some_iff.1 hv).1;obtain⟨y,h1,h2⟩:=j8p hc i cs[i] (List.getElem?_eq_getElem (by omega))
      rw[h1,joD h2 (hi i _ v (List.getElem?_eq_getElem (by omega)) hv)]
    rw[this]
 ·cases h
def EnvR(m:Mem)(φ:Ph)(ρ:AEnv)(a:Act):Prop:=∀t x,aget ρ t=some x→∃v,a.tmps[t]?=some v∧R m φ x v
def MemW(m:Mem)(w:World):Prop:=∀b o v,m b o=some v→w.cell? ⟨b,o,none⟩=some v
theorem EnvR.mono{m':Mem}{φ':Ph}(h:EnvR m φ ρ a)(hm:Mem.le m m')(hle:Le φ φ'):EnvR m' φ' ρ a:=fun t x ht=>by
 obtain⟨v,h1,h2⟩:=h t x ht;exact⟨v,h1,h2.mono hm hle⟩
theorem j0h(h:EnvR m φ ρ a)(hx:aval ρ x=some u):R m φ u (a.eval x):=by
 cases x with
 |tmp t=>
  obtain⟨v,h1,h2⟩:=h t u hx;simpa[Act.eval,h1] using h2
 |const v=>simpa[Act.eval] using j3Y (m:=m) (φ:=φ) (show j6s v=some u from hx)
 |global g=>simp[aval] at hx
 |func f=>
  simp only[aval,Option.some.injEq] at hx;subst hx;exact .fn (us:=[]) (vs:=[]) rfl rfl (fun i c v h=>by simp at h) (fun i c v h=>by simp at h)
theorem jaI(h:EnvR m φ ρ a){xs:List Operand}{us:List PV}(hx:mapO (aval ρ) xs=some us):Rl m φ us (xs.map a.eval):=by
 refine⟨by rw[j1P hx];simp,fun i c v hc hv=>?_⟩
 obtain⟨x,h1,h2⟩:=j8o hx hc;rw[List.getElem?_map,h1] at hv;simp only[Option.map_some,Option.some.injEq] at hv;subst hv;exact j0h h h2
def Does(P:Program)(w:World)(a:Act)(m:Mem)(φ:Ph)(o:Oper)(x:PV):Prop:=∃v,(execOp a.eval o).run P w=.ok (.value v) w∧R m φ x v
variable{dst:Option Nat}{ty:TypeId}{pos:String}{after:Array Edge}{gd:Option (Nat×Bool)}
theorem j9q{x:PV}(h:nat? x=some q)(hr:R m φ x v):∃k,v=.int k (q:Int):=by
 unfold nat? at h;split at h
 ·split at h
  ·cases h;exact⟨_,hr.sc_eq⟩
  ·cases h
 ·cases h
theorem jeI{x:PV}(h:jnD x=true)(hr:R m φ x v):∃b o,v=.pointer (some ⟨b,o,none⟩):=by
 cases hr with
 |bp=>exact⟨_,_,rfl⟩
 |rp _ _ _ hp=>exact hp
 |cp=>exact⟨_,_,rfl⟩
 |ci=>exact⟨_,_,rfl⟩
 |_=>simp[jnD] at h
theorem jmU(h:EnvR m φ ρ a)(hx:aval ρ x=some u):Does P w a m φ ⟨dst,.move x,ty,pos,after,gd⟩ u:=⟨a.eval x,by simp[execOp],j0h h hx⟩
theorem jhv(h:EnvR m φ ρ a)(hx:aval ρ x=some u):Does P w a m φ ⟨dst,.assign x,ty,pos,after,gd⟩ u:=⟨a.eval x,by simp[execOp],j0h h hx⟩
theorem jmV{c:Operand}(h:EnvR m φ ρ a)(hx:jmb ρ c x y=some u):Does P w a m φ ⟨dst,.pick c x y,ty,pos,after,gd⟩ u:=by
 unfold jmb at hx;split at hx
 ·rename_i b hc;have he:=(j0h h hc).sc_eq;cases b with
  |true=>exact⟨a.eval x,by simp[execOp,he,asBool],j0h h hx⟩
  |false=>exact⟨a.eval y,by simp[execOp,he,asBool],j0h h hx⟩
 ·cases hx
theorem jpy(h:EnvR m φ ρ a)(hx:aNil ρ x=some u):Does P w a m φ ⟨dst,.nilCheck x,ty,pos,after,gd⟩ u:=by
 unfold aNil at hx;split at hx
 ·rename_i p hp;split at hx
  ·rename_i hi;cases hx;have hr:=j0h h hp;obtain⟨b,o,he⟩:=jeI hi hr;exact⟨_,by simp[execOp,he],he▸hr⟩
  ·cases hx
 ·cases hx
theorem jfN{i:Nat}(h:EnvR m φ ρ a)(hx:jdF ρ x i=some u):Does P w a m φ ⟨dst,.extract x i,ty,pos,after,gd⟩ u:=by
 unfold jdF at hx;split at hx
 ·rename_i vs hv;have hr:=j0h h hv;generalize he:a.eval x=ev at hr;cases hr with
  |tu hl hi=>
   rename_i ws;obtain⟨v,h1,h2⟩:=Rl.get ⟨hl,hi⟩ hx;exact⟨v,by simp[execOp,he,Instr.extract,h1],h2⟩
 ·cases hx
theorem jsp{i j:Int}(h:jnB op .i64 i j=some u):∃v,(do eqGuard op T x y (.int .i64 i) (.int .i64 j);binOp op T (.int .i64 i) (.int .i64 j):Sem Value).run P w=.ok v w∧R m φ u v:=by
 unfold jnB at h;split at h<;>first
  |(cases h;refine⟨_,?_,.sc rfl⟩;simp[eqGuard,binOp,Op.intArith];done)
  |(cases h;refine⟨_,?_,.sc rfl⟩;simp[eqGuard,binOp,Op.intCmp];done)
  |(cases h;refine⟨_,?_,.sc rfl⟩;simp[eqGuard,binOp,Op.intCmp];rfl)
  |cases h
theorem j2O{d:TypeDesc}{u:Value}(hT:P.underlying T=some d)
  (h:(d,u,v)=(d,u,v)→(match d,u,v with
   | .pointer _,.pointer none,.pointer b=>some b.isNone
   | .pointer _,.pointer _,.pointer none=>some false
   | .interface _,.nilIface,.iface _ _ | .interface _,.iface _ _,.nilIface=>some false
   | .func _ _ _,.func _ _ _,.nilFunc=>some false
   | .slice _,.slice none _ _,.slice none 0 0=>some true
   | .slice _,.slice (some _) _ _,.slice none 0 0=>some false
   |_,_,_=>none)=some r):(Op.equal T u v).run P w=.ok r w:=by
 have h:=h rfl;unfold Op.equal;rw[show Op.maxDepth=(Op.maxDepth-1)+1 from rfl]
 generalize Op.maxDepth-1=k;rw[Op.equalIn];simp only[Sem.run_bind,run_underlying hT,Result.andThen_ok];split at h<;>first
  |(cases h;simp only[Sem.run_pure];done)
  |(cases h;simp[Sem.run_pure];done)
  |(cases h)
theorem jfZ{x y:PV}{u:Value}(h:jkM P T x y=some r)(hx:R m φ x u)(hy:R m φ y v)(X Y:Operand)(op:BinOp):(eqGuard op T X Y u v).run P w=.ok () w∧(Op.equal T u v).run P w=.ok r w ∧
  (∀k i,u≠.int k i)∧(∀s,u≠.string s)∧(∀k i,u≠.float k i)∧(∀k i j,u≠.complex k i j):=by
 unfold jkM at h;split at h
 ·rename_i e hT;split at h
  ·rename_i hb;cases h;have key:(∃b o,u=.pointer (some ⟨b,o,none⟩)∧v=.pointer none)∨(∃b o,v=.pointer (some ⟨b,o,none⟩)∧u=.pointer none):=by
    simp only[Bool.or_eq_true,Bool.and_eq_true] at hb;have hn:∀{z:PV}{t:Value},isNil z=true→R m φ z t→t=.pointer none:=fun{z t} h1 h2=>by
     unfold isNil at h1;split at h1
     ·exact h2.sc_eq
     ·cases h1
    rcases hb with⟨h1,h2⟩|⟨h1,h2⟩
    ·obtain⟨b,o,rfl⟩:=jeI h1 hx;exact .inl ⟨b,o,rfl,hn h2 hy⟩
    ·obtain⟨b,o,rfl⟩:=jeI h1 hy;exact .inr ⟨b,o,rfl,hn h2 hx⟩
   rcases key with⟨b,o,rfl,rfl⟩|⟨b,o,rfl,rfl⟩
   ·exact⟨by cases op<;>simp[eqGuard],j2O hT (fun _=>rfl),by simp,by simp,by simp,by simp⟩
   ·exact⟨by cases op<;>simp[eqGuard],j2O hT (fun _=>rfl),by simp,by simp,by simp,by simp⟩
  ·cases h
 ·rename_i ms hT;split at h
  ·cases h;cases hx;cases hy.sc_eq;exact⟨by cases op<;>simp[eqGuard],j2O hT (fun _=>rfl),by simp,by simp,by simp,by simp⟩
  ·cases h;cases hy;cases hx.sc_eq;exact⟨by cases op<;>simp[eqGuard],j2O hT (fun _=>rfl),by simp,by simp,by simp,by simp⟩
  ·cases h
 ·rename_i hT;split at h
  ·cases h;cases hx;cases hy.sc_eq;exact⟨by cases op<;>simp[eqGuard],j2O hT (fun _=>rfl),by simp,by simp,by simp,by simp⟩
  ·cases h
 ·rename_i e hT;have hnl:∀{v:Value},R m φ (.sl true 0 []) v→v=.slice none 0 0:=fun hv=>by
   cases hv with
   |sl b off g ha hcap hmax hfull hel hr hnil=>
    have h1:=hfull rfl;have h2:=hnil rfl rfl;subst h2;simp only[List.length_nil] at h1;subst h1;rfl
  split at h
  ·rename_i f sz xs;cases hnl hy;split at h
   ·split at h
    ·rename_i hb;rw[Bool.and_eq_true] at hb;cases h;have hz:=Nat.eq_of_beq_eq_true hb.2;rw[hb.1,hz] at hx;cases hnl hx;exact⟨by cases op<;>simp[eqGuard],j2O hT (fun _=>rfl),by simp,by simp,by simp,by simp⟩
    ·cases h
   ·rename_i hne;cases h;cases hx with
    |sl b off g ha hcap hmax hfull hel hr hnil=>
     rw[ha hne];exact⟨by cases op<;>simp[eqGuard],j2O hT (fun _=>rfl),by simp,by simp,by simp,by simp⟩
  ·cases h
 ·cases h
theorem jpx{U:TypeId}(h:EnvR m φ ρ a)(hx:aBin P ρ op T x y=some u):Does P w a m φ ⟨dst,.binOp op T x y U,ty,pos,after,gd⟩ u:=by
 unfold aBin at hx;split at hx
 ·rename_i p q hp hq;have rp:=j0h h hp;have rq:=j0h h hq;have fin:∀{v:Value},(do eqGuard op T x y (a.eval x) (a.eval y);binOp op T (a.eval x) (a.eval y):Sem Value).run P w=.ok v w→R m φ u v→Does P w a m φ ⟨dst,.binOp op T x y U,ty,pos,after,gd⟩ u:=fun h1 h2=>by
   refine⟨_,?_,h2⟩;simp only[execOp];rw[Sem.run_bind,h1];simp
  split at hx
  ·rename_i v hf;cases hx;unfold jhB at hf;split at hf
   ·have e1:=rp.sc_eq;have e2:=rq.sc_eq;obtain⟨v',h1,h2⟩:=jsp (P:=P) (m:=m) (φ:=φ) (w:=w) (T:=T) (x:=x) (y:=y) hf;rw[←e1,←e2] at h1;exact fin h1 h2
   ·cases hf
  ·unfold j0j at hx;split at hx
   ·rename_i v1 v2 h1 h2;have e1:=jk1 h1 rp;have e2:=jk1 h2 rq;cases hq:qrun P (do eqGuard op T x y v1 v2;binOp op T v1 v2) with
    |none=>simp[hq] at hx
    |some r=>
     rw[hq] at hx;have hr:=j3D w hq;rw[←e1,←e2] at hr;exact fin hr (j3Y hx)
   ·unfold jrt at hx;split at hx
    ·cases he:jkM P T p q with
     |none=>simp[he] at hx
     |some r=>
      simp only[he,Option.map_some,Option.some.injEq] at hx;subst hx;obtain⟨h1,h2,h3,h4,h5,h6⟩:=jfZ (w:=w) he rp rq x y .eql;refine fin (v:=.bool r) ?_ (.sc rfl);rw[Sem.run_bind,h1];simp only[Result.andThen_ok];generalize a.eval x=ex at h1 h2 h3 h4 h5 h6;generalize a.eval y=ey at h1 h2;unfold binOp;split<;>first
       |(simp_all;done)
       |(simp only[Sem.run_bind,h2,Result.andThen_ok,Sem.run_pure];done)
       |(exfalso;simp_all;done)
    ·cases he:jkM P T p q with
     |none=>simp[he] at hx
     |some r=>
      simp only[he,Option.map_some,Option.some.injEq] at hx;subst hx;obtain⟨h1,h2,h3,h4,h5,h6⟩:=jfZ (w:=w) he rp rq x y .neq;refine fin (v:=.bool !r) ?_ (.sc rfl);rw[Sem.run_bind,h1];simp only[Result.andThen_ok];generalize a.eval x=ex at h1 h2 h3 h4 h5 h6;generalize a.eval y=ey at h1 h2;unfold binOp;split<;>first
       |(simp_all;done)
       |(simp only[Sem.run_bind,h2,Result.andThen_ok,Sem.run_pure];done)
       |(exfalso;simp_all;done)
    ·cases hx
 ·cases hx
theorem js7{op:UnOp}(h:EnvR m φ ρ a)(hx:aUn P ρ op x=some u):Does P w a m φ ⟨dst,.unOp op T x,ty,pos,after,gd⟩ u:=by
 unfold aUn at hx;split at hx
 ·rename_i v hv;have e:=(j0h h hv).sc_eq;cases hq:qrun P (Op.unary op v) with
  |none=>simp[hq] at hx
  |some r=>
   rw[hq] at hx;exact⟨r,by simp[execOp,e,j3D w hq],j3Y hx⟩
 ·cases hx
theorem joM(h:strT P T=true):P.underlying T=some .string:=by
 unfold strT at h;split at h
 ·assumption
 ·cases h
theorem jpp(h:jcF P T=true):∃e,P.underlying T=some (.slice e)∧P.underlying e=some (.int .u8):=by
 unfold jcF at h;split at h
 ·rename_i e he;split at h
  ·exact⟨e,he,by assumption⟩
  ·cases h
 ·cases h
theorem jrG{x:PV}{c:UInt8}(h:u8Of x=some c):x=.sc (.int .u8 (c.toNat:Int)):=by
 unfold u8Of at h;split at h
 ·split at h
  ·rename_i q;split at h
   ·rename_i hq;cases h;have hq':q<256:=by simpa[Nat.blt_eq] using hq
    have:(UInt8.ofNat q).toNat=q:=by simp[UInt8.toNat_ofNat'];omega
    rw[this];rfl
   ·cases h
  ·cases h
 ·cases h
theorem jtM(h:strB P s d xs=some u):∃e l,P.underlying s=some (.slice e)∧P.underlying e=some (.int .u8)∧P.underlying d=some .string∧u=.sc (.string ⟨(l:List UInt8).toArray⟩)∧l.length=xs.length∧∀(i:Nat) x,xs[i]?=some x→∃c,l[i]?=some c∧x=.sc (.int .u8 (c.toNat:Int)):=by
 unfold strB at h;split at h
 ·rename_i hb;rw[Bool.and_eq_true] at hb;obtain⟨e,h1,h2⟩:=jpp hb.1;obtain⟨l,h3,rfl⟩:=Option.map_eq_some_iff.1 h;refine⟨e,l,h1,h2,joM hb.2,rfl,j1P h3,fun i x hx=>?_⟩
  obtain⟨c,h4,h5⟩:=j8p h3 i x hx;exact⟨c,h4,jrG h5⟩
 ·cases h
theorem jjV{ad:Option Addr}{cap:Nat}(h:strB P s d xs=some u)(hc:xs≠[]→∃b off,ad=some ⟨b,off,none⟩∧∀(i:Nat) c,xs[i]?=some (.sc (.int .u8 ((c:UInt8).toNat:Int)))→w.cell? ⟨b,off+i,none⟩=some (.int .u8 (c.toNat:Int))):
  ∃b,(convert s d (.slice ad xs.length cap)).run P w=.ok (.string b) w∧u=.sc (.string b):=by
 obtain⟨e,l,h1,h2,h3,rfl,hl,hx⟩:=jtM h;refine⟨_,?_,rfl⟩
 by_cases hn:xs=[]
 ·subst hn;have hl0:l=[]:=List.eq_nil_of_length_eq_zero (by simpa using hl)
  subst hl0;cases ad with
  |none=>exact run_convert_bytes_nil w s e h1 h2 _ _ d h3
  |some ad=>exact run_convert_bytes_back w s d e ad cap [] h1 h2 h3 (fun j hj=>by simp at hj)
 ·obtain⟨b,off,rfl,hcell⟩:=hc hn;rw[←hl];refine run_convert_bytes_back w s d e _ cap l h1 h2 h3 fun j hj=>?_
  obtain⟨x,hxj⟩:∃x,xs[j]?=some x:=⟨_,List.getElem?_eq_getElem (by omega)⟩
  obtain⟨c,hc1,rfl⟩:=hx j x hxj;rw[List.getElem?_eq_getElem hj] at hc1;cases hc1;rw[Addr.add_lit];exact hcell j _ hxj
theorem jmT(hm:MemW m w)(h:EnvR m φ ρ a)(hx:jfh P ρ s d x=some u):Does P w a m φ ⟨dst,.convert s d x,ty,pos,after,gd⟩ u:=by
 unfold jfh at hx;split at hx
 ·cases hx
 split at hx
 ·rename_i v hv;have e:=(j0h h hv).sc_eq;cases hq:qrun P (convert s d v) with
  |none=>simp[hq] at hx
  |some r=>
   rw[hq] at hx;exact⟨r,by simp[execOp,e,j3D w hq],j3Y hx⟩
 ·rename_i f sz xs hv;have hr:=j0h h hv;generalize he:a.eval x=ev at hr;cases hr with
  | @sl _ _ _ _ ad cap b off g ha hcap hmax hfull hel hrr hnil=>
   obtain⟨b',h1,rfl⟩:=jjV (w:=w) (ad:=ad) (cap:=cap) hx fun hne=>⟨b,off,ha hne,fun i c hxi=>by
    obtain⟨q1,q2,q3,q4⟩:=hel i _ hxi;have hs1:sz=1:=by simpa[PV.cells] using q1.symm
    subst hs1;obtain⟨v,hv⟩:∃v,(g i)[0]?=some v:=⟨_,List.getElem?_eq_getElem (by omega)⟩
    have:=hrr i _ 0 _ v hxi rfl hv;have hve:=this.sc_eq;subst hve;have:=q3 0 _ hv;rw[Nat.mul_one,Nat.add_zero] at this;exact hm _ _ _ this⟩
   exact⟨_,by simp[execOp,he,h1],.sc rfl⟩
 ·cases hx
theorem jkC(h:EnvR m φ ρ a)(hx:jma P ρ T x=some u):Does P w a m φ ⟨dst,.makeInterface T x,ty,pos,after,gd⟩ u:=by
 unfold jma at hx;split at hx
 ·cases hx
 ·rename_i d hne hT;cases hv:aval ρ x with
  |none=>simp[hv] at hx
  |some v=>
   simp only[hv,Option.map_some,Option.some.injEq] at hx;subst hx;refine⟨_,?_,.ifc (j0h h hv)⟩;have:(Instr.makeInterface T (a.eval x)).run P w=.ok (.iface T (a.eval x)) w:=by
    unfold Instr.makeInterface;simp only[Sem.run_bind,run_underlying hT,Result.andThen_ok];first
     |(simp;done)
     |(split<;>first |(rename_i ms;exact absurd rfl (hne ms)) |simp)
   simp[execOp,this]
 ·cases hx
theorem js6{f:Fn}{xs ys:Array Operand}(h:EnvR m φ ρ a)(hx:aFn ρ f xs ys=some u):Does P w a m φ ⟨dst,.makeFunc f xs ys,ty,pos,after,gd⟩ u:=by
 unfold aFn at hx;split at hx
 ·rename_i f;cases h1:mapO (aval ρ) xs.toList with
  |none=>simp[h1] at hx
  |some as=>
   cases h2:mapO (aval ρ) ys.toList with
   |none=>simp[h1,h2] at hx
   |some bs=>
    simp only[h1,h2,Option.some.injEq] at hx;subst hx;have r1:=jaI h h1;have r2:=jaI h h2;refine⟨_,?_,.fn r1.1 r2.1 r1.2 r2.2⟩;have e:∀zs:Array Operand,zs.map a.eval=(zs.toList.map a.eval).toArray:=fun zs=>by apply Array.ext';simp
    simp[execOp,Instr.makeFunc,e]
 ·cases hx
theorem j8y{k:IntKind}{y:Nat}{code:BoundsCode}(e:v=.int k (q:Int))(hle:q≤y):(Instr.sliceBound v y code).run P w=.ok q w:=by
 subst e;have h1:(0:Int)≤(q:Int)∧(q:Int)≤(y:Int):=by omega
 simp[Instr.sliceBound,asIntOf,h1]
theorem jrx{d:Nat}{x:Option PV}{v:Option Value}(h:optN d x=some q)(hr:∀p,x=some p→∃u,v=some u∧R m φ p u)(hn:x=none→v=none):(v=none∧q=d)∨∃k,v=some (.int k (q:Int)):=by
 cases x with
 |none=>simp[optN] at h;exact .inl ⟨hn rfl,h.symm⟩
 |some p=>
  obtain⟨u,rfl,hu⟩:=hr p rfl;obtain⟨k,rfl⟩:=j9q (m:=m) (φ:=φ) (show nat? p=some q from h) hu
  exact .inr ⟨k,rfl⟩
theorem jdc(h:EnvR m φ ρ a){x:Option Operand}{u:Option PV}(hx:optV ρ x=some u):(∀p,u=some p→∃v,x.map a.eval=some v∧R m φ p v)∧(u=none→x.map a.eval=none):=by
 cases x with
 |none=>simp[optV] at hx;subst hx;simp
 |some x=>
  simp only[optV] at hx;cases hv:aval ρ x with
  |none=>simp[hv] at hx
  |some v=>
   simp only[hv,Option.map_some,Option.some.injEq] at hx;subst hx;exact⟨fun p hp=>by cases hp;exact⟨_,rfl,j0h h hv⟩,fun e=>by cases e⟩
theorem jdo{e:TypeId}{z:Nat}{full:Bool}{lo hi mx:Option PV}{vl vh vm:Option Value}(ht:tsl P T=some (e,z))(hz:z=sz∨xs=[])
  (hu:jdn full sz xs lo hi mx=some u) (hv:R m φ (.sl full sz xs) v)
  (hl:(∀p,lo=some p→∃v,vl=some v∧R m φ p v)∧(lo=none→vl=none)) (hh:(∀p,hi=some p→∃v,vh=some v∧R m φ p v)∧(hi=none→vh=none)) (hm:(∀p,mx=some p→∃v,vm=some v∧R m φ p v)∧(mx=none→vm=none)) :
  ∃r,(Instr.sliceAt T v vl vh vm).run P w=.ok r w∧R m φ u r:=by
 cases hv with
 | @sl _ _ _ _ ad cap b off g ha hcap hmax hfull hel hr hnil=>
  unfold jdn at hu;split at hu
  ·rename_i h l h1 h2;split at hu
   ·rename_i hb;rw[Bool.and_eq_true] at hb;have hhn:=Nat.le_of_ble_eq_true hb.1;have hlh:=Nat.le_of_ble_eq_true hb.2;have eh:=jrx (m:=m) (φ:=φ) h1 hh.1 hh.2;have el:=jrx (m:=m) (φ:=φ) h2 hl.1 hl.2
    -- the bounds
    have key:∀(M:Nat) (f':Bool),h≤M→M≤cap→(f'=true→M=h)→(f'=true→sz=0→ad=none)→(Instr.sliceBounds true xs.length cap vl vh vm).run P w=.ok (l,h,M) w →
      ∃r,(Instr.sliceAt T (.slice ad xs.length cap) vl vh vm).run P w=.ok r w∧R m φ (.sl f' sz ((xs.take h).drop l)) r:=fun M f' hM hMc hf' hnf hbnd=>by
     have hlen:((xs.take h).drop l).length=h-l:=by simp;omega
     have hat:∀i x,((xs.take h).drop l)[i]?=some x→xs[l+i]?=some x:=fun i x hx=>by
      rw[List.getElem?_drop,List.getElem?_take] at hx;split at hx
      ·exact hx
      ·cases hx
     refine⟨.slice (if M=l then ad else ad.map (·.add (l*z))) (h-l) (M-l),?_,?_⟩
     ·unfold tsl at ht;split at ht
      ·rename_i e' he;cases hi:P.info? e' with
       |none=>simp[hi] at ht
       |some ii=>
        simp[hi] at ht;obtain⟨rfl,rfl⟩:=ht;have hsz:(sizeOf e').run P w=.ok ii.size w:=by simp[sizeOf,typeInfo,hi]
        unfold Instr.sliceAt;simp only[Sem.run_bind,run_underlying he,Result.andThen_ok];unfold Instr.slice;simp only[Sem.run_bind,run_underlying he,Result.andThen_ok,hbnd,hsz,Sem.run_pure]
      ·cases ht
     ·rw[←hlen];refine .sl b (off+l*sz) (fun i=>g (l+i)) (fun hne=>?_) (by rw[hlen];omega) (by omega) (fun e=>by rw[hlen,hf' e]) (fun i x hx=>?_) (fun i x j c v hx=>?_) (fun e1 e2=>by rw[hnf e1 e2];simp)
      ·have hpos:0<h-l:=by
        rw[←hlen];exact List.length_pos_iff.2 hne
       have hxs:xs≠[]:=by
        intro e;rw[e] at hhn;simp at hhn;omega
       rw[if_neg (by omega),ha hxs]
       simp only[Option.map_some,Addr.add_lit];rcases hz with rfl|hz
       ·rfl
       ·exact absurd hz hxs
      ·have:=hel (l+i) x (hat i x hx);refine⟨this.1,this.2.1,?_,this.2.2.2⟩;have h3:=this.2.2.1;rw[Nat.add_mul] at h3
       rwa [Nat.add_assoc]
      ·exact hr (l+i) x j c v (hat i x hx)
    have bl:∀code,(match vl with
      |some v=>Instr.sliceBound v h code
      |none=>pure 0:Sem Nat).run P w=.ok l w:=fun code=>by
     rcases el with⟨rfl,rfl⟩|⟨k,rfl⟩
     ·simp
     ·exact j8y rfl hlh
    split at hu
    ·cases hu;have e0:vm=none:=hm.2 rfl;subst e0;refine key cap _ (by omega) (Nat.le_refl _) (fun e=>by
      rw[Bool.and_eq_true] at e;rw[hfull e.1];exact(Nat.eq_of_beq_eq_true e.2).symm) (fun e=>hnil (by
       rw[Bool.and_eq_true] at e;exact e.1)) ?_
     unfold Instr.sliceBounds;simp only[Sem.run_bind,Sem.run_pure,Result.andThen_ok,Option.isSome_none];rcases eh with⟨rfl,rfl⟩|⟨k,rfl⟩
     ·simp only[Sem.run_pure,Result.andThen_ok];have:=bl .sliceB;cases vl<;>simp_all
     ·have hb2:=j8y (P:=P) (w:=w) (v:=.int k (h:Int)) (y:=cap) (code:=.sliceAcap) rfl (by omega)
      have:=bl .sliceB;clear key;cases vl<;>simp_all
    ·rename_i mp;split at hu
     ·rename_i q hp' hq;split at hu
      ·rename_i hbeq;cases hu;rw[Bool.and_eq_true] at hbeq;obtain rfl:=Nat.eq_of_beq_eq_true hbeq.1;obtain⟨um,rfl,hum⟩:=hm.1 mp rfl;obtain⟨km,rfl⟩:=j9q hq hum;obtain⟨uh,rfl,huh⟩:=hh.1 hp' rfl;obtain⟨kh,rfl⟩:∃kh,uh=.int kh (q:Int):=by
        rcases eh with⟨e,_⟩|⟨k,e⟩
        ·cases e
        ·exact⟨k,Option.some.inj e⟩
       refine key q true (Nat.le_refl _) (by omega) (fun _=>rfl) (fun _ e=>by
        have hpos:=hbeq.2;subst e;exact hnil (by simpa using hpos) rfl) ?_
       unfold Instr.sliceBounds;have hb2:=j8y (P:=P) (w:=w) (v:=.int km (q:Int)) (y:=cap) (code:=.slice3Acap) rfl (by omega)
       have hb3:=j8y (P:=P) (w:=w) (v:=.int kh (q:Int)) (y:=q) (code:=.slice3B) rfl (Nat.le_refl q);have:=bl .slice3C;clear key;cases vl<;>simp_all
      ·cases hu
     ·cases hu
   ·cases hu
  ·cases hu
theorem joO(h:szOk P T sz xs=true):∃e z,tsl P T=some (e,z)∧(z=sz∨xs=[]):=by
 unfold szOk at h;split at h
 ·rename_i e z ht;refine⟨e,z,ht,?_⟩;rw[Bool.or_eq_true] at h;rcases h with h|h
  ·exact .inl (Nat.eq_of_beq_eq_true h)
  ·exact .inr (by simpa using h)
 ·cases h
theorem jkF{lo hi mx:Option Operand}(h:EnvR m φ ρ a)(hx:jcy P ρ T x lo hi mx=some u):Does P w a m φ ⟨dst,.slice T x lo hi mx,ty,pos,after,gd⟩ u:=by
 unfold jcy at hx;split at hx
 ·rename_i pl ph pm hl hh hm;have rl:=jdc h hl;have rh:=jdc h hh;have rm:=jdc h hm;have fin:(∃r,(Instr.sliceAt T (a.eval x) (lo.map a.eval) (hi.map a.eval) (mx.map a.eval)).run P w=.ok r w∧R m φ u r)→Does P w a m φ ⟨dst,.slice T x lo hi mx,ty,pos,after,gd⟩ u:=fun⟨r,h1,h2⟩=>⟨r,by simp[execOp,h1],h2⟩
  split at hx
  ·rename_i v hv;have e:=(j0h h hv).sc_eq;unfold j8A at hx;split at hx
   ·have optS_eq:∀{p:Option PV}{q:Option Value}{r:Option Value},optS p=some q→((∀t,p=some t→∃v,r=some v∧R m φ t v)∧(p=none→r=none))→r=q:=fun{p q r} h1 h2=>by
     cases p with
     |none=>simp[optS] at h1;rw[←h1];exact h2.2 rfl
     |some t=>
      simp only[optS] at h1;cases hs:scOf t with
      |none=>simp[hs] at h1
      |some s=>
       simp only[hs,Option.map_some,Option.some.injEq] at h1;obtain⟨v,h3,h4⟩:=h2.1 t rfl;rw[h3,joD hs h4,h1]
    split at hx
    ·rename_i l' h' e1 e2;cases hq:qrun P (Instr.sliceAt T v l' h' none) with
     |none=>simp[hq] at hx
     |some r=>
      rw[hq] at hx;refine fin ⟨r,?_,j3Y hx⟩;rw[e,optS_eq e1 rl,optS_eq e2 rh,rm.2 rfl];exact j3D w hq
    ·cases hx
   ·cases hx
  ·rename_i full sz xs hv;split at hx
   ·rename_i hs;obtain⟨e,z,ht,hz⟩:=joO hs;exact fin (jdo ht hz hx (j0h h hv) rl rh rm)
   ·cases hx
  ·cases hx
 ·cases hx
end
end Go.Am

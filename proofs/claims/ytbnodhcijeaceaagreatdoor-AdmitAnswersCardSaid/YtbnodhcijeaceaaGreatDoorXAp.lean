/- How the plain machine's values lie in memory. Plain definitions and lemmas, no statement of the seat. -/
import Derived.Test.YtbnodhcijeaceaaGreatDoorXAm
import Derived.Lib.UnsafeStr
set_option linter.all false
namespace Go.Am
open Go Go.Hb
def RdN(m:Mem)(b off:Nat)(vs:List Value):Prop:=∀j v,vs[j]?=some v→m b (off+j)=some v
variable{cs:List PV}{vs:List Value}{m m':Mem}{i:Nat}{c x:PV}{α β:Type}{v:Value}
def RdN.mono{b off:Nat}(h:RdN m b off vs)(hA:Mem.le m m'):RdN m' b off vs:=fun j v hv=>hA _ _ _ (h j v hv)
inductive Phi where
 |blk (b:Nat)
 |row (sv:Value) (n sz:Nat)
abbrev Ph:=Nat→Option Phi
def noPh:Ph:=fun _=>none
inductive R (m:Mem):Ph→PV→Value→Prop where
 |sc {φ:Ph}{v:Value}(h:isSc v=true):R m φ (.sc v) v
 |ag {φ:Ph}{cs:List PV}{vs:List Value}(hl:cs.length=vs.length) (hc:cs.all cell=true) (h:∀(i:Nat) c v,cs[i]?=some c→vs[i]?=some v→R m φ c v):R m φ (.ag cs) (.agg vs.toArray)
 |tu {φ:Ph}{cs:List PV}{vs:List Value}(hl:cs.length=vs.length) (h:∀(i:Nat) c v,cs[i]?=some c→vs[i]?=some v→R m φ c v):R m φ (.tu cs) (.tuple vs.toArray)
 |sl {φ:Ph}{full:Bool}{sz:Nat}{xs:List PV}{a:Option Addr}{cap:Nat}(b off:Nat) (g:Nat→List Value) (ha:xs≠[]→a=some ⟨b,off,none⟩) (hcap:xs.length≤cap) (hmax:cap≤maxLen) (hfull:full=true→cap=xs.length)
   (hel:∀(i:Nat) x,xs[i]?=some x→x.cells.length=sz∧(g i).length=sz∧RdN m b (off+i*sz) (g i)∧x.cells.all cell=true)
   (hr:∀(i:Nat) x (j:Nat) c v,xs[i]?=some x→x.cells[j]?=some c→(g i)[j]?=some v→R m noPh c v) (hnil:full=true→sz=0→a=none):R m φ (.sl full sz xs) (.slice a xs.length cap)
 |ms {φ:Ph}{id len n sz:Nat}{sv v:Value}(hφ:φ id=some (.row sv n sz)) (hle:len≤n) (hv:len=n→v=sv) (hs:∃a l c,v=.slice a l c):R m φ (.ms id len) v
 |bp {φ:Ph}{id off b:Nat}(hφ:φ id=some (.blk b)):R m φ (.bp id off) (.pointer (some ⟨b,off,none⟩))
 |rp {φ:Ph}{id len i off n sz:Nat}{sv v:Value}(hφ:φ id=some (.row sv n sz)) (hle:len≤n) (hv:len=n→∃b cap,sv=.slice (some ⟨b,0,none⟩) n cap∧v=.pointer (some ⟨b,i*sz+off,none⟩)) (hp:∃b o,v=.pointer (some ⟨b,o,none⟩)):R m φ (.rp id len i off) v
 |cp {φ:Ph}{cs:List PV}{b off:Nat}{vs:List Value}(hl:cs.length=vs.length) (hrd:RdN m b off vs) (hc:cs.all cell=true) (h:∀(i:Nat) c v,cs[i]?=some c→vs[i]?=some v→R m noPh c v):R m φ (.cp cs) (.pointer (some ⟨b,off,none⟩))
 |ci {φ:Ph}{cs:List PV}{b off:Nat}{vs:List Value}(hl:cs.length=vs.length) (hrd:RdN m b off vs) (hc:cs.all cell=true) (h:∀(i:Nat) c v,cs[i]?=some c→vs[i]?=some v→R m φ c v):R m φ (.ci cs) (.pointer (some ⟨b,off,none⟩))
 |fn {φ:Ph}{f:FuncId}{as bs:List PV}{us vs:List Value}(hl:as.length=us.length) (hl':bs.length=vs.length) (h:∀(i:Nat) c v,as[i]?=some c→us[i]?=some v→R m φ c v) (h':∀(i:Nat) c v,bs[i]?=some c→vs[i]?=some v→R m φ c v):R m φ (.fn f as bs) (.func (.func f) us.toArray vs.toArray)
 |ifc {φ:Ph}{t:TypeId}{x:PV}{v:Value}(h:R m φ x v):R m φ (.ifc t x) (.iface t v)
 |yl {φ:Ph}{id l:Nat}(hφ:φ id=some (.blk l)):R m φ (.yl id) (.func (.yield l) #[] #[])
 |mr {φ:Ph}{id b:Nat}(hφ:φ id=some (.blk b)):R m φ (.mr id) (.map (some b))
 |cr {φ:Ph}{id b:Nat}(hφ:φ id=some (.blk b)):R m φ (.cr id) (.chan (some b))
 |un {φ:Ph}{v:Value}(h:v.oneCell'=true):R m φ .un v
def Rl(m:Mem)(φ:Ph)(cs:List PV)(vs:List Value):Prop:=cs.length=vs.length∧∀(i:Nat) c v,cs[i]?=some c→vs[i]?=some v→R m φ c v
variable{φ:Ph}
def Rl.nil:Rl m φ [] []:=⟨rfl,fun i c v h=>by simp at h⟩
def Rl.cons(h:R m φ c v)(hs:Rl m φ cs vs):Rl m φ (c::cs) (v::vs):=by
 refine⟨by simp[hs.1],fun i c' v' h1 h2=>?_⟩
 cases i with
 |zero=>simp at h1 h2;subst h1;subst h2;exact h
 |succ i=>exact hs.2 i c' v' (by simpa using h1) (by simpa using h2)
def Rl.uncons{ws:List Value}(h:Rl m φ (c::cs) ws):∃v vs,ws=v::vs∧R m φ c v∧Rl m φ cs vs:=by
 cases ws with
 |nil=>exact absurd h.1 (by simp)
 |cons v vs=>exact⟨v,vs,rfl,h.2 0 c v rfl rfl,⟨by have:=h.1;simpa using this,fun i c' v' h1 h2=>h.2 (i+1) c' v' (by simpa using h1) (by simpa using h2)⟩⟩
def Rl.get(h:Rl m φ cs vs)(hc:cs[i]?=some c):∃v,vs[i]?=some v∧R m φ c v:=by
 have hi:=(AK.1 hc).1;have hv:vs[i]?=some (vs[i]'(by have:=h.1;omega)):=AA _
 exact⟨_,hv,h.2 i c _ hc hv⟩
def Rl.append{as bs:List PV}{us:List Value}(h:Rl m φ as us)(k:Rl m φ bs vs):Rl m φ (as++bs) (us++vs):=by
 refine⟨by simp[h.1,k.1],fun i c v h1 h2=>?_⟩
 by_cases hi:i<as.length
 ·rw[AW hi] at h1;rw[AW (by have:=h.1;omega)] at h2
  exact h.2 i c v h1 h2
 ·rw[BK (by omega)] at h1
  rw[BK (by have:=h.1;omega),←h.1] at h2
  exact k.2 _ c v h1 h2
def Rl.take(h:Rl m φ cs vs)(k:Nat):Rl m φ (cs.take k) (vs.take k):=by
 refine⟨by simp[h.1],fun i c v h1 h2=>?_⟩
 rw[CQ] at h1 h2;split at h1
 ·rename_i hi;rw[if_pos hi] at h2;exact h.2 i c v h1 h2
 ·cases h1
def Rl.drop(h:Rl m φ cs vs)(k:Nat):Rl m φ (cs.drop k) (vs.drop k):=by
 refine⟨by simp[h.1],fun i c v h1 h2=>?_⟩
 rw[CY] at h1 h2;exact h.2 _ c v h1 h2
def Le(φ φ':Ph):Prop:=∀id,(∀b,φ id=some (.blk b)→φ' id=some (.blk b))∧∀sv n sz,φ id=some (.row sv n sz)→∃sv' n',φ' id=some (.row sv' n' sz)∧((n'=n∧sv'=sv)∨n<n')
def Le.refl(φ:Ph):Le φ φ:=fun id=>⟨fun _ h=>h,fun sv n sz h=>⟨sv,n,h,.inl ⟨rfl,rfl⟩⟩⟩
variable{φ':Ph}
def Le.trans{φ'':Ph}(h:Le φ φ')(k:Le φ' φ''):Le φ φ'':=fun id=>⟨fun b e=>(k id).1 b ((h id).1 b e),fun sv n sz e=>by
 obtain⟨sv',n',h1,h2⟩:=(h id).2 sv n sz e;obtain⟨sv'',n'',h3,h4⟩:=(k id).2 sv' n' sz h1;refine⟨sv'',n'',h3,?_⟩;rcases h2 with⟨rfl,rfl⟩|h2
 ·exact h4
 ·rcases h4 with⟨rfl,rfl⟩|h4
  ·exact .inr h2
  ·exact .inr (Nat.lt_trans h2 h4)⟩
def Le.none(φ:Ph):Le noPh φ:=fun id=>⟨fun b h=>by simp[noPh] at h,fun sv n sz h=>by simp[noPh] at h⟩
def R.mono(hm:Mem.le m m')(h:R m φ x v):∀{φ':Ph},Le φ φ'→R m' φ' x v:=by
 induction h with
 |sc h=>intro φ' _;exact .sc h
 |ag hl hc _ ih=>intro φ' hA;exact .ag hl hc fun i c v h1 h2=>ih i c v h1 h2 hA
 |tu hl _ ih=>intro φ' hA;exact .tu hl fun i c v h1 h2=>ih i c v h1 h2 hA
 |sl b off g ha gB qB qA gA hr hB ih=>
  intro φ' _;exact .sl b off g ha gB qB qA (fun i x hx=>⟨(gA i x hx).1,(gA i x hx).2.1,(gA i x hx).2.2.1.mono hm,(gA i x hx).2.2.2⟩) (fun i x j c v h1 h2 h3=>ih i x j c v h1 h2 h3 (Le.refl _)) hB
 |ms hφ hA hv hs=>
  intro φ' hl;obtain⟨sv',n',h1,h2⟩:=(hl _).2 _ _ _ hφ;rcases h2 with⟨rfl,rfl⟩|h2
  ·exact .ms h1 hA hv hs
  ·exact .ms h1 (by omega) (fun e=>absurd e (by omega)) hs
 |bp hφ=>intro φ' hl;exact .bp ((hl _).1 _ hφ)
 |rp hφ hA hv hp=>
  intro φ' hl;obtain⟨sv',n',h1,h2⟩:=(hl _).2 _ _ _ hφ;rcases h2 with⟨rfl,rfl⟩|h2
  ·exact .rp h1 hA hv hp
  ·exact .rp h1 (by omega) (fun e=>absurd e (by omega)) hp
 |cp hl wA hc _ ih=>intro φ' _;exact .cp hl (wA.mono hm) hc fun i c v h1 h2=>ih i c v h1 h2 (Le.refl _)
 |ci hl wA hc _ ih=>intro φ' hA;exact .ci hl (wA.mono hm) hc fun i c v h1 h2=>ih i c v h1 h2 hA
 |fn hl wB _ _ ih ih'=>intro φ' hA;exact .fn hl wB (fun i c v h1 h2=>ih i c v h1 h2 hA) (fun i c v h1 h2=>ih' i c v h1 h2 hA)
 |ifc _ ih=>intro φ' hA;exact .ifc (ih hA)
 |yl hφ=>intro φ' hl;exact .yl ((hl _).1 _ hφ)
 |mr hφ=>intro φ' hl;exact .mr ((hl _).1 _ hφ)
 |cr hφ=>intro φ' hl;exact .cr ((hl _).1 _ hφ)
 |un h=>intro φ' _;exact .un h
def Rl.mono(hm:Mem.le m m')(hA:Le φ φ')(h:Rl m φ cs vs):Rl m' φ' cs vs:=
 ⟨h.1,fun i c v h1 h2=>(h.2 i c v h1 h2).mono hm hA⟩
def jdF:∀{n:Nat}{x:PV},pur n x=true→pur (n+1) x=true
 |0,_,h=>by simp[pur] at h
 |n+1,x,h=>by
  have hA:∀{l:List PV},l.all (pur n)=true→l.all (pur (n+1))=true:=fun hl=>AF.2 fun c hc=>jdF (AF.1 hl c hc)
  cases x with
  |ag cs=>simp only[pur] at h;unfold pur;exact hA h
  |tu cs=>simp only[pur] at h;unfold pur;exact hA h
  |fn f a b=>simp only[pur,AB] at h;unfold pur;simp only[AB];exact⟨hA h.1,hA h.2⟩
  |ifc t x=>simp only[pur] at h;unfold pur;exact jdF h
  |_=>first|(simp[pur] at h;done)|(simp[pur];done)
def R.pure{m:Mem}:∀(n:Nat) {φ:Ph}{x:PV}{v:Value},pur n x=true→R m φ x v→R m noPh x v
 |0,_,_,_,h,_=>by simp[pur] at h
 |n+1,φ,x,v,h,hr=>by
  have hA:∀{l:List PV}{ws:List Value},l.all (pur n)=true→(∀(i:Nat) c v,l[i]?=some c→ws[i]?=some v→R m φ c v)→∀(i:Nat) c v,l[i]?=some c→ws[i]?=some v→R m noPh c v:=fun hl hi i c v h1 h2=>
   R.pure n (AF.1 hl c (AE h1)) (hi i c v h1 h2)
  cases hr with
  |sc h1=>exact .sc h1
  |ag hl hc hi=>simp only[pur] at h;exact .ag hl hc (hA h hi)
  |tu hl hi=>simp only[pur] at h;exact .tu hl (hA h hi)
  |sl b off g ha hB wA qA hC hr gA=>exact .sl b off g ha hB wA qA hC hr gA
  |ms=>simp[pur] at h
  |bp=>simp[pur] at h
  |rp=>simp[pur] at h
  |yl=>simp[pur] at h
  |mr=>simp[pur] at h
  |cr=>simp[pur] at h
  |un h=>exact .un h
  |cp hl qB hc hi=>exact .cp hl qB hc hi
  |ci=>simp[pur] at h
  |fn hl gB hi wB=>simp only[pur,AB] at h;exact .fn hl gB (hA h.1 hi) (hA h.2 wB)
  |ifc hi=>simp only[pur] at h;exact .ifc (R.pure n h hi)
def Rl.pure{n:Nat}(h:cs.all (pur n)=true)(hr:Rl m φ cs vs):Rl m noPh cs vs:=
 ⟨hr.1,fun i c v h1 h2=>R.pure n (AF.1 h c (AE h1)) (hr.2 i c v h1 h2)⟩
def R.any(h:R m noPh x v):R m φ x v:=h.mono (Mem.le.refl m) (Le.none φ)
def Rl.any(h:Rl m noPh cs vs):Rl m φ cs vs:=h.mono (Mem.le.refl m) (Le.none φ)
def jeC{f:Nat→Bool}:∀{n:Nat}{x:PV},j0e f n x=true→j0e f (n+1) x=true
 |0,_,h=>by simp[j0e] at h
 |n+1,x,h=>by
  have hA:∀{l:List PV},l.all (j0e f n)=true→l.all (j0e f (n+1))=true:=fun hl=>AF.2 fun c hc=>jeC (AF.1 hl c hc)
  cases x with
  |ag cs=>simp only[j0e] at h;unfold j0e;exact hA h
  |tu cs=>simp only[j0e] at h;unfold j0e;exact hA h
  |ci cs=>simp only[j0e] at h;unfold j0e;exact hA h
  |fn g a b=>simp only[j0e,AB] at h;unfold j0e;simp only[AB];exact⟨hA h.1,hA h.2⟩
  |ifc t x=>simp only[j0e] at h;unfold j0e;exact jeC h
  |_=>first|(simp only[j0e] at h⊢;exact h)|(simp[j0e];done)
def only(f:Nat→Bool)(φ:Ph):Ph:=fun id=>match f id with
 |true=>φ id
 |false=>none
theorem R.only{m:Mem}(f:Nat→Bool):∀(n:Nat) {φ:Ph}{x:PV}{v:Value},j0e f n x=true→R m φ x v→R m (only f φ) x v
 |0,_,_,_,h,_=>by simp[j0e] at h
 |n+1,φ,x,v,h,hr=>by
  have hA:∀{l:List PV}{ws:List Value},l.all (j0e f n)=true→(∀(i:Nat) c v,l[i]?=some c→ws[i]?=some v→R m φ c v)→∀(i:Nat) c v,l[i]?=some c→ws[i]?=some v→R m (Am.only f φ) c v:=fun hl hi i c v h1 h2=>
   R.only f n (AF.1 hl c (AE h1)) (hi i c v h1 h2)
  cases hr with
  |sc h1=>exact .sc h1
  |ag hl hc hi=>simp only[j0e] at h;exact .ag hl hc (hA h hi)
  |tu hl hi=>simp only[j0e] at h;exact .tu hl (hA h hi)
  |sl b off g ha gB hB qA qC hr wA=>exact .sl b off g ha gB hB qA qC hr wA
  |ms hφ qB hv hs=>simp only[j0e] at h;exact .ms ((by simp[Am.only,h]:Am.only f φ _=φ _).trans hφ) qB hv hs
  |bp hφ=>simp only[j0e] at h;exact .bp ((by simp[Am.only,h]:Am.only f φ _=φ _).trans hφ)
  |rp hφ qB hv hp=>simp only[j0e] at h;exact .rp ((by simp[Am.only,h]:Am.only f φ _=φ _).trans hφ) qB hv hp
  |cp hl gA hc hi=>exact .cp hl gA hc hi
  |ci hl gA hc hi=>simp only[j0e] at h;exact .ci hl gA hc (hA h hi)
  |fn hl wB hi hC=>simp only[j0e,AB] at h;exact .fn hl wB (hA h.1 hi) (hA h.2 hC)
  |ifc hi=>simp only[j0e] at h;exact .ifc (R.only f n h hi)
  |yl hφ=>simp only[j0e] at h;exact .yl ((by simp[Am.only,h]:Am.only f φ _=φ _).trans hφ)
  |mr hφ=>simp only[j0e] at h;exact .mr ((by simp[Am.only,h]:Am.only f φ _=φ _).trans hφ)
  |cr hφ=>simp only[j0e] at h;exact .cr ((by simp[Am.only,h]:Am.only f φ _=φ _).trans hφ)
  |un h=>exact .un h
theorem Rl.only{m:Mem}{f:Nat→Bool}{n:Nat}{φ:Ph}{cs:List PV}{vs:List Value}(h:cs.all (j0e f n)=true)(hr:Rl m φ cs vs):Rl m (only f φ) cs vs:=
 ⟨hr.1,fun i c v h1 h2=>R.only f n (AF.1 h c (AE h1)) (hr.2 i c v h1 h2)⟩
def R.one(h:R m φ x v)(hc:cell x=true):v.oneCell'=true:=by
 cases h with
 |sc h=>cases v<;>simp[isSc] at h<;>simp[Value.oneCell']
 |ag=>simp[cell] at hc
 |tu=>simp[cell] at hc
 |ms _ _ _ hs=>obtain⟨a,l,c,rfl⟩:=hs;simp[Value.oneCell']
 |rp _ _ _ hp=>obtain⟨_,_,rfl⟩:=hp;simp[Value.oneCell']
 |un h=>exact h
 |_=>simp[Value.oneCell']
open Go Go.Hb
open Go.Gw (tk tf tz tsl tar tpl isAggD)
def j3T{P:Program}(w:World):∀{s:Sem α}{a:α},qrun P s=some a→s.run P w=.ok a w:=by
 intro s
 induction s with
 |pure b=>intro a h;simp[qrun] at h;subst h;simp[Sem.run]
 |program k ih=>intro a h;simp only[qrun] at h;simp only[Sem.run];exact ih P h
 |mark m k ih=>intro a h;simp only[qrun] at h;simp only[Sem.run];exact ih h
 |_=>intro a h;simp[qrun] at h
def j5c{f:α→Option β}{x:α}{l:List α}{r:List β}(h:mapO f (x::l)=some r):∃y r',r=y::r'∧f x=some y∧mapO f l=some r':=by
 simp only[mapO] at h;cases hf:f x with
 |none=>simp[hf] at h
 |some y=>
  cases hl:mapO f l with
  |none=>simp[hf,hl] at h
  |some r'=>simp[hf,hl] at h;exact⟨y,r',h.symm,rfl,rfl⟩
def j1X{α β:Type}{f:α→Option β}:∀{l:List α}{r:List β},mapO f l=some r→r.length=l.length
 |[],r,h=>by simp[mapO] at h;subst h;rfl
 |x::l,r,h=>by
  obtain⟨y,r',rfl,_,h2⟩:=j5c h;simp[j1X h2]
def j8Q{α β:Type}{f:α→Option β}:∀{l:List α}{r:List β},mapO f l=some r→∀(i:Nat) x,l[i]?=some x→∃y,r[i]?=some y∧f x=some y
 |[],r,h,i,x,hx=>by simp at hx
 |z::l,r,h,i,x,hx=>by
  obtain⟨y,r',rfl,hy,hl⟩:=j5c h;cases i with
  |zero=>simp at hx;subst hx;exact⟨y,rfl,hy⟩
  |succ i=>simpa using j8Q hl i x (by simpa using hx)
def j8P{f:α→Option β}{l:List α}{r:List β}(h:mapO f l=some r){y:β}(hy:r[i]?=some y):∃x,l[i]?=some x∧f x=some y:=by
 have hi:=(AK.1 hy).1;rw[j1X h] at hi;obtain⟨y',h1,h2⟩:=j8Q h i l[i] (AA hi);rw[hy] at h1;cases h1;exact⟨_,AA hi,h2⟩
section
variable{P:Program}{m:Mem}{φ:Ph}{ρ:AEnv}{a:Act}{w:World}
variable{op:BinOp}{r:Bool}{xs:List PV}{q sz:Nat}{x y:Operand}{u:PV}{T d s:TypeId}{v:Value}
def jeV{x:PV}(h:jan v=some x):R m φ x v∧cell x=true:=by
 unfold jan at h;split at h
 ·cases h;exact⟨.sl (xs:=[]) 0 0 (fun _=>[]) (fun e=>absurd rfl e) (AU _) (by decide) (fun _=>rfl) (fun i x hx=>by simp at hx) (fun i x j c v hx=>by simp at hx) (fun _ _=>rfl),rfl⟩
 ·split at h
  ·rename_i hs;cases h;exact⟨.sc hs,rfl⟩
  ·cases h
def j4r{vs:List Value}{cs:List PV}(h:mapO jan vs=some cs):Rl m φ cs vs∧cs.all cell=true:=by
 refine⟨⟨j1X h,fun i c v hc hv=>?_⟩,AF.2 fun c hc=>?_⟩
 ·obtain⟨y,h1,h2⟩:=j8Q h i v hv;rw[hc] at h1;cases h1;exact(jeV h2).1
 ·obtain⟨i,hi⟩:=BX hc;obtain⟨v,_,h2⟩:=j8P h hi;exact(jeV (m:=m) (φ:=φ) h2).2
def j4s{x:PV}(h:j6o v=some x):R m φ x v:=by
 unfold j6o at h;split at h
 ·rename_i cs;cases hc:mapO jan cs.toList with
  |none=>simp[hc] at h
  |some l=>
   simp only[hc,AY,AD] at h;subst h;obtain⟨h1,h2⟩:=j4r (m:=m) (φ:=φ) hc;have:=R.ag h1.1 h2 h1.2;simpa using this
 ·exact(jeV h).1
def R.sc_eq{u:Value}(h:R m φ (.sc v) u):u=v:=by cases h;rfl
def jpp{x:PV}{u:Value}(h:scOf x=some v)(hr:R m φ x u):u=v:=by
 unfold scOf at h;split at h
 ·cases h;exact hr.sc_eq
 ·cases h
def jkC{x:PV}{u:Value}(h:j5r x=some v)(hr:R m φ x u):u=v:=by
 unfold j5r at h;split at h
 ·cases h;exact hr.sc_eq
 ·rename_i cs;cases hc:mapO scOf cs with
  |none=>simp[hc] at h
  |some l=>
   simp only[hc,AY,AD] at h;subst h;cases hr with
   | @ag _ _ vs hl _ hi=>
    have:l=vs:=by
     apply CU
     intro i;cases hv:vs[i]? with
     |none=>
      have:vs.length≤i:=CS.1 hv;exact CS.2 (by rw[j1X hc];omega)
     |some v=>
      have hA:=(AK.1 hv).1;obtain⟨y,h1,h2⟩:=j8Q hc i cs[i] (AA (by omega))
      rw[h1,jpp h2 (hi i _ v (AA (by omega)) hv)]
    rw[this]
 ·cases h
def EnvR(m:Mem)(φ:Ph)(ρ:AEnv)(a:Act):Prop:=∀t x,aget ρ t=some x→∃v,a.tmps[t]?=some v∧R m φ x v
def MemW(m:Mem)(w:World):Prop:=∀b o v,m b o=some v→w.cell? ⟨b,o,none⟩=some v
def EnvR.mono{m':Mem}{φ':Ph}(h:EnvR m φ ρ a)(hm:Mem.le m m')(hA:Le φ φ'):EnvR m' φ' ρ a:=fun t x ht=>by
 obtain⟨v,h1,h2⟩:=h t x ht;exact⟨v,h1,h2.mono hm hA⟩
def j0j(h:EnvR m φ ρ a)(hx:aval ρ x=some u):R m φ u (a.eval x):=by
 cases x with
 |tmp t=>
  obtain⟨v,h1,h2⟩:=h t u hx;simpa[Act.eval,h1] using h2
 |const v=>simpa[Act.eval] using j4s (m:=m) (φ:=φ) (show j6o v=some u from hx)
 |global g=>simp[aval] at hx
 |func f=>
  simp only[aval,AD] at hx;subst hx;exact .fn (us:=[]) (vs:=[]) rfl rfl (fun i c v h=>by simp at h) (fun i c v h=>by simp at h)
def jbc(h:EnvR m φ ρ a){xs:List Operand}{us:List PV}(hx:mapO (aval ρ) xs=some us):Rl m φ us (xs.map a.eval):=by
 refine⟨by rw[j1X hx];simp,fun i c v hc hv=>?_⟩
 obtain⟨x,h1,h2⟩:=j8P hx hc;rw[BA,h1] at hv;simp only[AY,AD] at hv;subst hv;exact j0j h h2
def Does(P:Program)(w:World)(a:Act)(m:Mem)(φ:Ph)(o:Oper)(x:PV):Prop:=∃v,(execOp a.eval o).run P w=.ok (.value v) w∧R m φ x v
variable{dst:Option Nat}{ty:TypeId}{pos:String}{after:Array Edge}{gd:Option (Nat×Bool)}
def j9Q{x:PV}(h:nat? x=some q)(hr:R m φ x v):∃k,v=.int k (q:Int):=by
 unfold nat? at h;split at h
 ·split at h
  ·cases h;exact⟨_,hr.sc_eq⟩
  ·cases h
 ·cases h
def jf4{x:PV}(h:joo x=true)(hr:R m φ x v):∃b o,v=.pointer (some ⟨b,o,none⟩):=by
 cases hr with
 |bp=>exact⟨_,_,rfl⟩
 |rp _ _ _ hp=>exact hp
 |cp=>exact⟨_,_,rfl⟩
 |ci=>exact⟨_,_,rfl⟩
 |_=>simp[joo] at h
def jnB(h:EnvR m φ ρ a)(hx:aval ρ x=some u):Does P w a m φ ⟨dst,.move x,ty,pos,after,gd⟩ u:=⟨a.eval x,by simp[execOp],j0j h hx⟩
def jhW(h:EnvR m φ ρ a)(hx:aval ρ x=some u):Does P w a m φ ⟨dst,.assign x,ty,pos,after,gd⟩ u:=⟨a.eval x,by simp[execOp],j0j h hx⟩
def jnC{c:Operand}(h:EnvR m φ ρ a)(hx:jmQ ρ c x y=some u):Does P w a m φ ⟨dst,.pick c x y,ty,pos,after,gd⟩ u:=by
 unfold jmQ at hx;split at hx
 ·rename_i b hc;have he:=(j0j h hc).sc_eq;cases b with
  |true=>exact⟨a.eval x,by simp[execOp,he,asBool],j0j h hx⟩
  |false=>exact⟨a.eval y,by simp[execOp,he,asBool],j0j h hx⟩
 ·cases hx
def jqk(h:EnvR m φ ρ a)(hx:aNil ρ x=some u):Does P w a m φ ⟨dst,.nilCheck x,ty,pos,after,gd⟩ u:=by
 unfold aNil at hx;split at hx
 ·rename_i p hp;split at hx
  ·rename_i hi;cases hx;have hr:=j0j h hp;obtain⟨b,o,he⟩:=jf4 hi hr;exact⟨_,by simp[execOp,he],he▸hr⟩
  ·cases hx
 ·cases hx
def jg8{i:Nat}(h:EnvR m φ ρ a)(hx:je4 ρ x i=some u):Does P w a m φ ⟨dst,.extract x i,ty,pos,after,gd⟩ u:=by
 unfold je4 at hx;split at hx
 ·rename_i vs hv;have hr:=j0j h hv;generalize he:a.eval x=ev at hr;cases hr with
  |tu hl hi=>
   rename_i ws;obtain⟨v,h1,h2⟩:=Rl.get ⟨hl,hi⟩ hx;exact⟨v,by simp[execOp,he,Instr.extract,h1],h2⟩
 ·cases hx
def jtc{i j:Int}(h:jom op .i64 i j=some u):∃v,(do eqGuard op T x y (.int .i64 i) (.int .i64 j);binOp op T (.int .i64 i) (.int .i64 j):Sem Value).run P w=.ok v w∧R m φ u v:=by
 unfold jom at h;split at h<;>first
  |(cases h;refine⟨_,?_,.sc rfl⟩;simp[eqGuard,binOp,Op.intArith];done)
  |(cases h;refine⟨_,?_,.sc rfl⟩;simp[eqGuard,binOp,Op.intCmp];done)
  |(cases h;refine⟨_,?_,.sc rfl⟩;simp[eqGuard,binOp,Op.intCmp];rfl)
  |cases h
def j3d{d:TypeDesc}{u:Value}(hT:P.underlying T=some d)
  (h:(d,u,v)=(d,u,v)→(match d,u,v with
   | .pointer _,.pointer none,.pointer b=>some b.isNone
   | .pointer _,.pointer _,.pointer none=>some false
   | .interface _,.nilIface,.iface _ _ | .interface _,.iface _ _,.nilIface=>some false
   | .func _ _ _,.func _ _ _,.nilFunc=>some false
   | .slice _,.slice none _ _,.slice none 0 0=>some true
   | .slice _,.slice (some _) _ _,.slice none 0 0=>some false
   |_,_,_=>none)=some r):(Op.equal T u v).run P w=.ok r w:=by
 have h:=h rfl;unfold Op.equal;rw[show Op.maxDepth=(Op.maxDepth-1)+1 from rfl]
 generalize Op.maxDepth-1=k;rw[Op.equalIn];simp only[Sem.run_bind,run_underlying hT,Result.andThen_ok];split at h<;>first
  |(cases h;simp only[Sem.run_pure];done)
  |(cases h;simp[Sem.run_pure];done)
  |(cases h)
def jgk{x y:PV}{u:Value}(h:jlj P T x y=some r)(hx:R m φ x u)(hy:R m φ y v)(X Y:Operand)(op:BinOp):(eqGuard op T X Y u v).run P w=.ok () w∧(Op.equal T u v).run P w=.ok r w ∧
  (∀k i,u≠.int k i)∧(∀s,u≠.string s)∧(∀k i,u≠.float k i)∧(∀k i j,u≠.complex k i j):=by
 unfold jlj at h;split at h
 ·rename_i e hT;split at h
  ·rename_i hb;cases h;have key:(∃b o,u=.pointer (some ⟨b,o,none⟩)∧v=.pointer none)∨(∃b o,v=.pointer (some ⟨b,o,none⟩)∧u=.pointer none):=by
    simp only[CK,AB] at hb;have hn:∀{z:PV}{t:Value},isNil z=true→R m φ z t→t=.pointer none:=fun{z t} h1 h2=>by
     unfold isNil at h1;split at h1
     ·exact h2.sc_eq
     ·cases h1
    rcases hb with⟨h1,h2⟩|⟨h1,h2⟩
    ·obtain⟨b,o,rfl⟩:=jf4 h1 hx;exact .inl ⟨b,o,rfl,hn h2 hy⟩
    ·obtain⟨b,o,rfl⟩:=jf4 h1 hy;exact .inr ⟨b,o,rfl,hn h2 hx⟩
   rcases key with⟨b,o,rfl,rfl⟩|⟨b,o,rfl,rfl⟩
   ·exact⟨by cases op<;>simp[eqGuard],j3d hT (fun _=>rfl),by simp,by simp,by simp,by simp⟩
   ·exact⟨by cases op<;>simp[eqGuard],j3d hT (fun _=>rfl),by simp,by simp,by simp,by simp⟩
  ·cases h
 ·rename_i ms hT;split at h
  ·cases h;cases hx;cases hy.sc_eq;exact⟨by cases op<;>simp[eqGuard],j3d hT (fun _=>rfl),by simp,by simp,by simp,by simp⟩
  ·cases h;cases hy;cases hx.sc_eq;exact⟨by cases op<;>simp[eqGuard],j3d hT (fun _=>rfl),by simp,by simp,by simp,by simp⟩
  ·cases h
 ·rename_i hT;split at h
  ·cases h;cases hx;cases hy.sc_eq;exact⟨by cases op<;>simp[eqGuard],j3d hT (fun _=>rfl),by simp,by simp,by simp,by simp⟩
  ·cases h
 ·rename_i e hT;have hB:∀{v:Value},R m φ (.sl true 0 []) v→v=.slice none 0 0:=fun hv=>by
   cases hv with
   |sl b off g ha wA gA hA gB hr qA=>
    have h1:=hA rfl;have h2:=qA rfl rfl;subst h2;simp only[AG] at h1;subst h1;rfl
  split at h
  ·rename_i f sz xs;cases hB hy;split at h
   ·split at h
    ·rename_i hb;rw[AB] at hb;cases h;have hz:=AH hb.2;rw[hb.1,hz] at hx;cases hB hx;exact⟨by cases op<;>simp[eqGuard],j3d hT (fun _=>rfl),by simp,by simp,by simp,by simp⟩
    ·cases h
   ·rename_i qB;cases h;cases hx with
    |sl b off g ha wA gA hA gB hr qA=>
     rw[ha qB];exact⟨by cases op<;>simp[eqGuard],j3d hT (fun _=>rfl),by simp,by simp,by simp,by simp⟩
  ·cases h
 ·cases h
def jqj{U:TypeId}(h:EnvR m φ ρ a)(hx:aBin P ρ op T x y=some u):Does P w a m φ ⟨dst,.binOp op T x y U,ty,pos,after,gd⟩ u:=by
 unfold aBin at hx;split at hx
 ·rename_i p q hp hq;have rp:=j0j h hp;have rq:=j0j h hq;have fin:∀{v:Value},(do eqGuard op T x y (a.eval x) (a.eval y);binOp op T (a.eval x) (a.eval y):Sem Value).run P w=.ok v w→R m φ u v→Does P w a m φ ⟨dst,.binOp op T x y U,ty,pos,after,gd⟩ u:=fun h1 h2=>by
   refine⟨_,?_,h2⟩;simp only[execOp];rw[Sem.run_bind,h1];simp
  split at hx
  ·rename_i v hf;cases hx;unfold ji4 at hf;split at hf
   ·have e1:=rp.sc_eq;have e2:=rq.sc_eq;obtain⟨v',h1,h2⟩:=jtc (P:=P) (m:=m) (φ:=φ) (w:=w) (T:=T) (x:=x) (y:=y) hf;rw[←e1,←e2] at h1;exact fin h1 h2
   ·cases hf
  ·unfold j0i at hx;split at hx
   ·rename_i v1 v2 h1 h2;have e1:=jkC h1 rp;have e2:=jkC h2 rq;cases hq:qrun P (do eqGuard op T x y v1 v2;binOp op T v1 v2) with
    |none=>simp[hq] at hx
    |some r=>
     rw[hq] at hx;have hr:=j3T w hq;rw[←e1,←e2] at hr;exact fin hr (j4s hx)
   ·unfold jsb at hx;split at hx
    ·cases he:jlj P T p q with
     |none=>simp[he] at hx
     |some r=>
      simp only[he,AY,AD] at hx;subst hx;obtain⟨h1,h2,h3,h4,h5,h6⟩:=jgk (w:=w) he rp rq x y .eql;refine fin (v:=.bool r) ?_ (.sc rfl);rw[Sem.run_bind,h1];simp only[Result.andThen_ok];generalize a.eval x=ex at h1 h2 h3 h4 h5 h6;generalize a.eval y=ey at h1 h2;unfold binOp;split<;>first
       |(simp_all;done)
       |(simp only[Sem.run_bind,h2,Result.andThen_ok,Sem.run_pure];done)
       |(exfalso;simp_all;done)
    ·cases he:jlj P T p q with
     |none=>simp[he] at hx
     |some r=>
      simp only[he,AY,AD] at hx;subst hx;obtain⟨h1,h2,h3,h4,h5,h6⟩:=jgk (w:=w) he rp rq x y .neq;refine fin (v:=.bool !r) ?_ (.sc rfl);rw[Sem.run_bind,h1];simp only[Result.andThen_ok];generalize a.eval x=ex at h1 h2 h3 h4 h5 h6;generalize a.eval y=ey at h1 h2;unfold binOp;split<;>first
       |(simp_all;done)
       |(simp only[Sem.run_bind,h2,Result.andThen_ok,Sem.run_pure];done)
       |(exfalso;simp_all;done)
    ·cases hx
 ·cases hx
def jsW{op:UnOp}(h:EnvR m φ ρ a)(hx:aUn P ρ op x=some u):Does P w a m φ ⟨dst,.unOp op T x,ty,pos,after,gd⟩ u:=by
 unfold aUn at hx;split at hx
 ·rename_i v hv;have e:=(j0j h hv).sc_eq;cases hq:qrun P (Op.unary op v) with
  |none=>simp[hq] at hx
  |some r=>
   rw[hq] at hx;exact⟨r,by simp[execOp,e,j3T w hq],j4s hx⟩
 ·cases hx
def jpy(h:strT P T=true):P.underlying T=some .string:=by
 unfold strT at h;split at h
 ·assumption
 ·cases h
def jqb(h:jd7 P T=true):∃e,P.underlying T=some (.slice e)∧P.underlying e=some (.int .u8):=by
 unfold jd7 at h;split at h
 ·rename_i e he;split at h
  ·exact⟨e,he,by assumption⟩
  ·cases h
 ·cases h
def jsn{x:PV}{c:UInt8}(h:u8Of x=some c):x=.sc (.int .u8 (c.toNat:Int)):=by
 unfold u8Of at h;split at h
 ·split at h
  ·rename_i q;split at h
   ·rename_i hq;cases h;have hA:q<256:=by simpa[BW] using hq
    have:(UInt8.ofNat q).toNat=q:=by simp[UInt8.toNat_ofNat'];omega
    rw[this];rfl
   ·cases h
  ·cases h
 ·cases h
def juI(h:strB P s d xs=some u):∃e l,P.underlying s=some (.slice e)∧P.underlying e=some (.int .u8)∧P.underlying d=some .string∧u=.sc (.string ⟨(l:List UInt8).toArray⟩)∧l.length=xs.length∧∀(i:Nat) x,xs[i]?=some x→∃c,l[i]?=some c∧x=.sc (.int .u8 (c.toNat:Int)):=by
 unfold strB at h;split at h
 ·rename_i hb;rw[AB] at hb;obtain⟨e,h1,h2⟩:=jqb hb.1;obtain⟨l,h3,rfl⟩:=BQ.1 h;refine⟨e,l,h1,h2,jpy hb.2,rfl,j1X h3,fun i x hx=>?_⟩
  obtain⟨c,h4,h5⟩:=j8Q h3 i x hx;exact⟨c,h4,jsn h5⟩
 ·cases h
def jkx{ad:Option Addr}{cap:Nat}(h:strB P s d xs=some u)(hc:xs≠[]→∃b off,ad=some ⟨b,off,none⟩∧∀(i:Nat) c,xs[i]?=some (.sc (.int .u8 ((c:UInt8).toNat:Int)))→w.cell? ⟨b,off+i,none⟩=some (.int .u8 (c.toNat:Int))):
  ∃b,(convert s d (.slice ad xs.length cap)).run P w=.ok (.string b) w∧u=.sc (.string b):=by
 obtain⟨e,l,h1,h2,h3,rfl,hl,hx⟩:=juI h;refine⟨_,?_,rfl⟩
 by_cases hn:xs=[]
 ·subst hn;have wA:l=[]:=AJ (by simpa using hl)
  subst wA;cases ad with
  |none=>exact run_convert_bytes_nil w s e h1 h2 _ _ d h3
  |some ad=>exact run_convert_bytes_back w s d e ad cap [] h1 h2 h3 (fun j hj=>by simp at hj)
 ·obtain⟨b,off,rfl,hA⟩:=hc hn;rw[←hl];refine run_convert_bytes_back w s d e _ cap l h1 h2 h3 fun j hj=>?_
  obtain⟨x,qA⟩:∃x,xs[j]?=some x:=⟨_,AA (by omega)⟩
  obtain⟨c,gA,rfl⟩:=hx j x qA;rw[AA hj] at gA;cases gA;rw[Addr.add_lit];exact hA j _ qA
def jnA(hm:MemW m w)(h:EnvR m φ ρ a)(hx:jfG P ρ s d x=some u):Does P w a m φ ⟨dst,.convert s d x,ty,pos,after,gd⟩ u:=by
 unfold jfG at hx;split at hx
 ·cases hx
 split at hx
 ·rename_i v hv;have e:=(j0j h hv).sc_eq;cases hq:qrun P (convert s d v) with
  |none=>simp[hq] at hx
  |some r=>
   rw[hq] at hx;exact⟨r,by simp[execOp,e,j3T w hq],j4s hx⟩
 ·rename_i f sz xs hv;have hr:=j0j h hv;generalize he:a.eval x=ev at hr;cases hr with
  | @sl _ _ _ _ ad cap b off g ha qC wB qA hC hB qB=>
   obtain⟨b',h1,rfl⟩:=jkx (w:=w) (ad:=ad) (cap:=cap) hx fun gB=>⟨b,off,ha gB,fun i c hA=>by
    obtain⟨q1,q2,q3,q4⟩:=hC i _ hA;have wA:sz=1:=by simpa[PV.cells] using q1.symm
    subst wA;obtain⟨v,hv⟩:∃v,(g i)[0]?=some v:=⟨_,AA (by omega)⟩
    have:=hB i _ 0 _ v hA rfl hv;have gA:=this.sc_eq;subst gA;have:=q3 0 _ hv;rw[FD,DB] at this;exact hm _ _ _ this⟩
   exact⟨_,by simp[execOp,he,h1],.sc rfl⟩
 ·cases hx
def jlb(h:EnvR m φ ρ a)(hx:jmP P ρ T x=some u):Does P w a m φ ⟨dst,.makeInterface T x,ty,pos,after,gd⟩ u:=by
 unfold jmP at hx;split at hx
 ·cases hx
 ·rename_i d hA hT;cases hv:aval ρ x with
  |none=>simp[hv] at hx
  |some v=>
   simp only[hv,AY,AD] at hx;subst hx;refine⟨_,?_,.ifc (j0j h hv)⟩;have:(Instr.makeInterface T (a.eval x)).run P w=.ok (.iface T (a.eval x)) w:=by
    unfold Instr.makeInterface;simp only[Sem.run_bind,run_underlying hT,Result.andThen_ok];first
     |(simp;done)
     |(split<;>first |(rename_i ms;exact absurd rfl (hA ms)) |simp)
   simp[execOp,this]
 ·cases hx
def jsU{f:Fn}{xs ys:Array Operand}(h:EnvR m φ ρ a)(hx:aFn ρ f xs ys=some u):Does P w a m φ ⟨dst,.makeFunc f xs ys,ty,pos,after,gd⟩ u:=by
 unfold aFn at hx;split at hx
 ·rename_i f;cases h1:mapO (aval ρ) xs.toList with
  |none=>simp[h1] at hx
  |some as=>
   cases h2:mapO (aval ρ) ys.toList with
   |none=>simp[h1,h2] at hx
   |some bs=>
    simp only[h1,h2,AD] at hx;subst hx;have r1:=jbc h h1;have r2:=jbc h h2;refine⟨_,?_,.fn r1.1 r2.1 r1.2 r2.2⟩;have e:∀zs:Array Operand,zs.map a.eval=(zs.toList.map a.eval).toArray:=fun zs=>by apply Array.ext';simp
    simp[execOp,Instr.makeFunc,e]
 ·cases hx
def j8X{k:IntKind}{y:Nat}{code:BoundsCode}(e:v=.int k (q:Int))(hA:q≤y):(Instr.sliceBound v y code).run P w=.ok q w:=by
 subst e;have h1:(0:Int)≤(q:Int)∧(q:Int)≤(y:Int):=by omega
 simp[Instr.sliceBound,asIntOf,h1]
def jsf{d:Nat}{x:Option PV}{v:Option Value}(h:optN d x=some q)(hr:∀p,x=some p→∃u,v=some u∧R m φ p u)(hn:x=none→v=none):(v=none∧q=d)∨∃k,v=some (.int k (q:Int)):=by
 cases x with
 |none=>simp[optN] at h;exact .inl ⟨hn rfl,h.symm⟩
 |some p=>
  obtain⟨u,rfl,hu⟩:=hr p rfl;obtain⟨k,rfl⟩:=j9Q (m:=m) (φ:=φ) (show nat? p=some q from h) hu
  exact .inr ⟨k,rfl⟩
def jdD(h:EnvR m φ ρ a){x:Option Operand}{u:Option PV}(hx:optV ρ x=some u):(∀p,u=some p→∃v,x.map a.eval=some v∧R m φ p v)∧(u=none→x.map a.eval=none):=by
 cases x with
 |none=>simp[optV] at hx;subst hx;simp
 |some x=>
  simp only[optV] at hx;cases hv:aval ρ x with
  |none=>simp[hv] at hx
  |some v=>
   simp only[hv,AY,AD] at hx;subst hx;exact⟨fun p hp=>by cases hp;exact⟨_,rfl,j0j h hv⟩,fun e=>by cases e⟩
def jdM{e:TypeId}{z:Nat}{full:Bool}{lo hi mx:Option PV}{vl vh vm:Option Value}(ht:tsl P T=some (e,z))(hz:z=sz∨xs=[])
  (hu:j6Y full sz xs lo hi mx=some u) (hv:R m φ (.sl full sz xs) v)
  (hl:(∀p,lo=some p→∃v,vl=some v∧R m φ p v)∧(lo=none→vl=none)) (hh:(∀p,hi=some p→∃v,vh=some v∧R m φ p v)∧(hi=none→vh=none)) (hm:(∀p,mx=some p→∃v,vm=some v∧R m φ p v)∧(mx=none→vm=none)) :
  ∃r,(Instr.sliceAt T v vl vh vm).run P w=.ok r w∧R m φ u r:=by
 cases hv with
 | @sl _ _ _ _ ad cap b off g ha hE hD wA wD hr gA=>
  unfold j6Y at hu;split at hu
  ·rename_i h l h1 h2;split at hu
   ·rename_i hb;rw[AB] at hb;have gB:=AM hb.1;have qD:=AM hb.2;have eh:=jsf (m:=m) (φ:=φ) h1 hh.1 hh.2;have el:=jsf (m:=m) (φ:=φ) h2 hl.1 hl.2
    -- the bounds
    have key:∀(M:Nat) (f':Bool),h≤M→M≤cap→(f'=true→M=h)→(f'=true→sz=0→ad=none)→(Instr.sliceBounds true xs.length cap vl vh vm).run P w=.ok (l,h,M) w →
      ∃r,(Instr.sliceAt T (.slice ad xs.length cap) vl vh vm).run P w=.ok r w∧R m φ (.sl f' sz ((xs.take h).drop l)) r:=fun M f' hM hF gD gC hB=>by
     have hlen:((xs.take h).drop l).length=h-l:=by simp;omega
     have wB:∀i x,((xs.take h).drop l)[i]?=some x→xs[l+i]?=some x:=fun i x hx=>by
      rw[CY,CQ] at hx;split at hx
      ·exact hx
      ·cases hx
     refine⟨.slice (if M=l then ad else ad.map (·.add (l*z))) (h-l) (M-l),?_,?_⟩
     ·unfold tsl at ht;split at ht
      ·rename_i e' he;cases hi:P.info? e' with
       |none=>simp[hi] at ht
       |some ii=>
        simp[hi] at ht;obtain⟨rfl,rfl⟩:=ht;have hsz:(sizeOf e').run P w=.ok ii.size w:=by simp[sizeOf,typeInfo,hi]
        unfold Instr.sliceAt;simp only[Sem.run_bind,run_underlying he,Result.andThen_ok];unfold Instr.slice;simp only[Sem.run_bind,run_underlying he,Result.andThen_ok,hB,hsz,Sem.run_pure]
      ·cases ht
     ·rw[←hlen];refine .sl b (off+l*sz) (fun i=>g (l+i)) (fun wC=>?_) (by rw[hlen];omega) (by omega) (fun e=>by rw[hlen,gD e]) (fun i x hx=>?_) (fun i x j c v hx=>?_) (fun e1 e2=>by rw[gC e1 e2];simp)
      ·have qA:0<h-l:=by
        rw[←hlen];exact EH.2 wC
       have qB:xs≠[]:=by
        intro e;rw[e] at gB;simp at gB;omega
       rw[if_neg (by omega),ha qB]
       simp only[AY,Addr.add_lit];rcases hz with rfl|hz
       ·rfl
       ·exact absurd hz qB
      ·have:=wD (l+i) x (wB i x hx);refine⟨this.1,this.2.1,?_,this.2.2.2⟩;have h3:=this.2.2.1;rw[EV] at h3
       rwa [DY]
      ·exact hr (l+i) x j c v (wB i x hx)
    have bl:∀code,(match vl with
      |some v=>Instr.sliceBound v h code
      |none=>pure 0:Sem Nat).run P w=.ok l w:=fun code=>by
     rcases el with⟨rfl,rfl⟩|⟨k,rfl⟩
     ·simp
     ·exact j8X rfl qD
    split at hu
    ·cases hu;have e0:vm=none:=hm.2 rfl;subst e0;refine key cap _ (by omega) (AU _) (fun e=>by
      rw[AB] at e;rw[wA e.1];exact(AH e.2).symm) (fun e=>gA (by
       rw[AB] at e;exact e.1)) ?_
     unfold Instr.sliceBounds;simp only[Sem.run_bind,Sem.run_pure,Result.andThen_ok,Option.isSome_none];rcases eh with⟨rfl,rfl⟩|⟨k,rfl⟩
     ·simp only[Sem.run_pure,Result.andThen_ok];have:=bl .sliceB;cases vl<;>simp_all
     ·have kE:=j8X (P:=P) (w:=w) (v:=.int k (h:Int)) (y:=cap) (code:=.sliceAcap) rfl (by omega)
      have:=bl .sliceB;clear key;cases vl<;>simp_all
    ·rename_i mp;split at hu
     ·rename_i q qC hq;split at hu
      ·rename_i hA;cases hu;rw[AB] at hA;obtain rfl:=AH hA.1;obtain⟨um,rfl,hC⟩:=hm.1 mp rfl;obtain⟨km,rfl⟩:=j9Q hq hC;obtain⟨uh,rfl,qE⟩:=hh.1 qC rfl;obtain⟨kh,rfl⟩:∃kh,uh=.int kh (q:Int):=by
        rcases eh with⟨e,_⟩|⟨k,e⟩
        ·cases e
        ·exact⟨k,BP e⟩
       refine key q true (AU _) (by omega) (fun _=>rfl) (fun _ e=>by
        have qA:=hA.2;subst e;exact gA (by simpa using qA) rfl) ?_
       unfold Instr.sliceBounds;have kE:=j8X (P:=P) (w:=w) (v:=.int km (q:Int)) (y:=cap) (code:=.slice3Acap) rfl (by omega)
       have wE:=j8X (P:=P) (w:=w) (v:=.int kh (q:Int)) (y:=q) (code:=.slice3B) rfl (AU q);have:=bl .slice3C;clear key;cases vl<;>simp_all
      ·cases hu
     ·cases hu
   ·cases hu
  ·cases hu
def jpA(h:szOk P T sz xs=true):∃e z,tsl P T=some (e,z)∧(z=sz∨xs=[]):=by
 unfold szOk at h;split at h
 ·rename_i e z ht;refine⟨e,z,ht,?_⟩;rw[CK] at h;rcases h with h|h
  ·exact .inl (AH h)
  ·exact .inr (by simpa using h)
 ·cases h
def jle{lo hi mx:Option Operand}(h:EnvR m φ ρ a)(hx:jcZ P ρ T x lo hi mx=some u):Does P w a m φ ⟨dst,.slice T x lo hi mx,ty,pos,after,gd⟩ u:=by
 unfold jcZ at hx;split at hx
 ·rename_i pl ph pm hl hh hm;have rl:=jdD h hl;have rh:=jdD h hh;have rm:=jdD h hm;have fin:(∃r,(Instr.sliceAt T (a.eval x) (lo.map a.eval) (hi.map a.eval) (mx.map a.eval)).run P w=.ok r w∧R m φ u r)→Does P w a m φ ⟨dst,.slice T x lo hi mx,ty,pos,after,gd⟩ u:=fun⟨r,h1,h2⟩=>⟨r,by simp[execOp,h1],h2⟩
  split at hx
  ·rename_i v hv;have e:=(j0j h hv).sc_eq;unfold j9a at hx;split at hx
   ·have optS_eq:∀{p:Option PV}{q:Option Value}{r:Option Value},optS p=some q→((∀t,p=some t→∃v,r=some v∧R m φ t v)∧(p=none→r=none))→r=q:=fun{p q r} h1 h2=>by
     cases p with
     |none=>simp[optS] at h1;rw[←h1];exact h2.2 rfl
     |some t=>
      simp only[optS] at h1;cases hs:scOf t with
      |none=>simp[hs] at h1
      |some s=>
       simp only[hs,AY,AD] at h1;obtain⟨v,h3,h4⟩:=h2.1 t rfl;rw[h3,jpp hs h4,h1]
    split at hx
    ·rename_i l' h' e1 e2;cases hq:qrun P (Instr.sliceAt T v l' h' none) with
     |none=>simp[hq] at hx
     |some r=>
      rw[hq] at hx;refine fin ⟨r,?_,j4s hx⟩;rw[e,optS_eq e1 rl,optS_eq e2 rh,rm.2 rfl];exact j3T w hq
    ·cases hx
   ·cases hx
  ·rename_i full sz xs hv;split at hx
   ·rename_i hs;obtain⟨e,z,ht,hz⟩:=jpA hs;exact fin (jdM ht hz hx (j0j h hv) rl rh rm)
   ·cases hx
  ·cases hx
 ·cases hx
end
open Go Go.Hb
open Go.Gw (tk tf tz tsl tar tpl isAggD)
section
variable{P:Program}{m:Mem}{φ:Ph}{ρ:AEnv}{a:Act}{w:World}{dst:Option Nat}{ty:TypeId}{pos:String}{after:Array Edge}{gd:Option (Nat×Bool)}
variable{ag:Bool}{cs ds:List PV}{vs:List Value}{b f k off:Nat}{i x:Operand}{u:PV}{α:Type}{T:TypeId}{v:Value}
def j8p{p:α→Bool}{l:List α}(h:l.all p=true)(k:Nat):(l.drop k).all p=true:=AF.2 fun x hx=>AF.1 h x (EU hx)
def je9{p:α→Bool}{l:List α}(h:l.all p=true)(k:Nat):(l.take k).all p=true:=AF.2 fun x hx=>AF.1 h x (GT hx)
def RdN.drop{m:Mem}(h:RdN m b off vs)(k:Nat):RdN m b (off+k) (vs.drop k):=fun j v hv=>by
 rw[CY] at hv;have:=h _ v hv
 rwa [←DY] at this
def jpr{p q:PV}{o:Nat}(h:jko o p=some q)(hr:R m φ p v):∃b off,v=.pointer (some ⟨b,off,none⟩)∧R m φ q (.pointer (some ⟨b,off+o,none⟩)):=by
 unfold jko at h;split at h
 ·cases h;cases hr with
  |bp hφ=>exact⟨_,_,rfl,.bp hφ⟩
 ·cases h;cases hr with
  |rp hφ qA hv hp=>
   obtain⟨b,off,rfl⟩:=hp;refine⟨b,off,rfl,.rp hφ qA (fun e=>?_) ⟨_,_,rfl⟩⟩
   obtain⟨b',cap,h1,h2⟩:=hv e;cases h2;exact⟨b,cap,h1,by rw[DY]⟩
 ·cases h;cases hr with
  |cp hl hA hc hi=>
   have h1:=(Rl.drop ⟨hl,hi⟩ o);exact⟨_,_,rfl,.cp h1.1 (hA.drop o) (j8p hc o) h1.2⟩
 ·cases h;cases hr with
  |ci hl hA hc hi=>
   have h1:=(Rl.drop ⟨hl,hi⟩ o);exact⟨_,_,rfl,.ci h1.1 (hA.drop o) (j8p hc o) h1.2⟩
 ·cases h
def jcL(h:EnvR m φ ρ a)(hx:j9p P ρ T x f=some u):Does P w a m φ ⟨dst,.fieldAddr T x f,ty,pos,after,gd⟩ u:=by
 unfold j9p at hx;split at hx
 ·rename_i o p ht hp;obtain⟨b,off,e,hr⟩:=jpr hx (j0j h hp);refine⟨_,?_,hr⟩;unfold tf at ht;split at ht
  ·rename_i fs qA;split at ht
   ·rename_i fd gA;split at ht
    ·rename_i i hi;split at ht
     ·cases ht
     ·rename_i hA;cases ht;simp[execOp,Instr.fieldAt,e,run_underlying qA,gA,Instr.sureAddr,fieldPlace,sizeOf,typeInfo,hi,hA,Addr.add_lit]
    ·cases ht
   ·cases ht
  ·cases ht
 ·cases hx
def j7Z(h:j8N ag cs off k=some u)(hr:Rl m φ cs vs)(hc:cs.all cell=true):∃v,Gw.loadV ag vs off k=some v∧R m φ u v:=by
 unfold j8N at h;unfold Gw.loadV;cases ag with
 |true=>
  simp only at h⊢;split at h
  ·rename_i hA;cases h;rw[hr.1] at hA;rw[hA];have h1:=(hr.drop off).take k;exact⟨_,rfl,.ag h1.1 (je9 (j8p hc off) k) h1.2⟩
  ·cases h
 |false=>
  simp only at h⊢;exact hr.get h
def jkm(ht:tk P T=some (ag,k))(hv:Gw.loadV ag vs off k=some v):(part T vs.toArray off).run P w=.ok v w:=by
 unfold tk at ht;split at ht
 ·rename_i dd ii qA gA;simp only[AD,BB] at ht;obtain⟨h1,h2⟩:=ht;unfold part;cases ag with
  |true=>
   have hA:(isAgg T).run P w=.ok true w:=by
    unfold isAgg;cases dd<;>simp[isAggD] at h1<;>simp[run_underlying qA]
   simp only[Gw.loadV] at hv;split at hv
   ·cases hv;simp only[Sem.run_bind,hA,Result.andThen_ok,if_true,sizeOf,typeInfo,program,gA,h2,Sem.run_pure,Sem.run];have e:vs.toArray.extract off (off+k)=(Gw.cut vs off k).toArray:=by
     apply Array.ext';simp[Gw.cut,FT]
    rw[e]
   ·cases hv
  |false=>
   have hA:(isAgg T).run P w=.ok false w:=by
    unfold isAgg;cases dd<;>simp[isAggD] at h1<;>simp[run_underlying qA]
   simp only[Gw.loadV] at hv;simp[hA,hv]
 ·cases ht
def jla(h:EnvR m φ ρ a)(hx:jmO P ρ T x f=some u):Does P w a m φ ⟨dst,.field T x f,ty,pos,after,gd⟩ u:=by
 unfold jmO at hx;split at hx
 ·rename_i ag off k cs hf hv;have hr:=j0j h hv;generalize he:a.eval x=ev at hr;cases hr with
  | @ag _ _ vs hl hc hi=>
   obtain⟨v,h1,h2⟩:=j7Z hx ⟨hl,hi⟩ hc;refine⟨v,?_,h2⟩;unfold fieldAt at hf;split at hf
   ·rename_i fs hA;split at hf
    ·rename_i fd qA;split at hf
     ·rename_i ag' k' hk;cases hf;have h3:(part fd.type vs.toArray fd.offset).run P w=.ok v w:=jkm hk h1;have h4:(Instr.field T (.agg vs.toArray) f).run P w=.ok v w:=by
       unfold Instr.field;simp[run_underlying hA,qA,asAgg,h3]
      simp[execOp,he,h4]
     ·cases hf
    ·cases hf
   ·cases hf
 ·cases hx
def jcM(h:EnvR m φ ρ a)(hx:j2E P ρ T x i=some u):Does P w a m φ ⟨dst,.indexAddr T x i,ty,pos,after,gd⟩ u:=by
 unfold j2E at hx;split at hx
 ·rename_i p pi hp hi;split at hx
  ·rename_i q hq;obtain⟨k,ek⟩:=j9Q hq (j0j h hi);have hr:=j0j h hp;unfold jbB at hx;split at hx
   ·rename_i full sz xs;split at hx
    ·rename_i el hB;split at hx
     ·rename_i hs;cases hx;generalize he:a.eval x=ev at hr;cases hr with
      | @sl _ _ _ _ ad cap b off g ha hD wC wB wA hC gC=>
       obtain⟨e,z,ht,hz⟩:=jpA hs;have qA:=(AK.1 hB).1;have gB:xs≠[]:=fun e=>by rw[e] at qA;simp at qA
       obtain rfl:z=sz:=hz.resolve_right gB;have qD:=ha gB;obtain⟨h1,h2,h3,h4⟩:=wA q el hB;refine⟨.pointer (some ⟨b,off+q*z,none⟩),?_,.cp (by rw[h1,h2]) h3 h4 (fun j c v hc hv=>hC q el j c v hB hc hv)⟩
       unfold tsl at ht;split at ht
       ·rename_i e' qB;cases hA:P.info? e' with
        |none=>simp[hA] at ht
        |some ii=>
         simp[hA] at ht;obtain⟨rfl,rfl⟩:=ht;simp[execOp,Instr.indexAt,he,ek,asIntOf,run_underlying qB,qA,sizeOf,typeInfo,hA,Addr.add_lit,qD]
       ·cases ht
     ·cases hx
    ·cases hx
   ·cases hx
   ·split at hx
    ·rename_i n e z ht;split at hx
     ·rename_i qA;have gA:q<n:=by simpa[BW] using qA
      obtain⟨b,off,e1,qC⟩:=jpr hx hr;refine⟨_,?_,qC⟩;unfold tar at ht;split at ht
      ·rename_i l' e' qB;cases hA:P.info? e' with
       |none=>simp[hA] at ht
       |some ii=>
        simp[hA] at ht;obtain⟨rfl,rfl,rfl⟩:=ht;simp[execOp,Instr.indexAt,e1,ek,asIntOf,run_underlying qB,gA,sizeOf,typeInfo,hA,Addr.add_lit,Instr.sureAddr]
      ·cases ht
     ·cases hx
    ·cases hx
  ·cases hx
 ·cases hx
def jlc(h:EnvR m φ ρ a)(hx:ja8 P ρ T x i=some u):Does P w a m φ ⟨dst,.index T x i,ty,pos,after,gd⟩ u:=by
 unfold ja8 at hx;split at hx
 ·rename_i v j hv hj;have e1:=(j0j h hv).sc_eq;have e2:=(j0j h hj).sc_eq;cases hq:qrun P (Instr.index T v j) with
  |none=>simp[hq] at hx
  |some r=>
   rw[hq] at hx;exact⟨r,by simp[execOp,e1,e2,j3T w hq],j4s hx⟩
 ·rename_i cs pi hv hi;split at hx
  ·rename_i n e z q ht hq;split at hx
   ·rename_i ag k hk gA;obtain⟨ki,ek⟩:=j9Q hq (j0j h hi);have qA:q<n:=by simpa[BW] using gA
    have hr:=j0j h hv;generalize he:a.eval x=ev at hr;cases hr with
    | @ag _ _ vs hl hc wA=>
     unfold tar at ht;split at ht
     ·rename_i l' e' hB;cases hA:P.info? e' with
      |none=>simp[hA] at ht
      |some ii=>
       simp[hA] at ht;obtain⟨rfl,rfl,rfl⟩:=ht;obtain rfl:k=ii.size:=by
        unfold tk at hk;rw[hA] at hk;split at hk
        ·rename_i dd ii' _ qB;cases qB;simp only[AD,BB] at hk;exact hk.2.symm
        ·cases hk
       obtain⟨v,h1,h2⟩:=j7Z hx ⟨hl,wA⟩ hc;have h3:=jkm (P:=P) (w:=w) hk h1;refine⟨v,?_,h2⟩;simp[execOp,Instr.index,he,ek,asIntOf,run_underlying hB,qA,sizeOf,typeInfo,hA,h3]
     ·cases ht
   ·cases hx
  ·cases hx
 ·cases hx
def jhV{U:TypeId}{ok:Bool}(h:EnvR m φ ρ a)(hx:jhA P ρ x T ok=some u):Does P w a m φ ⟨dst,.typeAssert x U T ok,ty,pos,after,gd⟩ u:=by
 unfold jhA at hx;split at hx
 ·cases hx
 ·rename_i d qA hT;split at hx
  ·rename_i t p hp;split at hx
   ·rename_i hb;obtain rfl:=AH hb;have hr:=j0j h hp;generalize he:a.eval x=ev at hr;cases hr with
    | @ifc _ _ _ v hi=>
     have key:∀r,(if ok then(.tuple #[v,.bool true]:Value) else v)=r→(Instr.typeAssert (.iface t v) U t ok).run P w=.ok r w:=fun r hA=>by
      unfold Instr.typeAssert;simp only[Sem.run_bind,run_underlying hT,Result.andThen_ok];cases d<;>first
       |exact absurd rfl (qA _)
       |(simp[hA];done)
     split at hx
     ·cases hx;refine⟨.tuple #[v,.bool true],by simp[execOp,he,key (.tuple #[v,.bool true]) rfl],?_⟩
      have hl:Rl m φ [p,.sc (.bool true)] [v,.bool true]:=.cons hi (.cons (.sc rfl) .nil);simpa using R.tu hl.1 hl.2
     ·cases hx;exact⟨v,by simp[execOp,he,key v rfl],hi⟩
   ·cases hx
  ·cases hx
 ·cases hx
def jpK{us:List Value}(h:Rl m φ cs us)(k:Rl m φ ds vs):Rl m φ (updP cs off ds) (Gw.upd us off vs):=by
 unfold updP Gw.upd;rw[k.1];exact(h.take off).append (k.append (h.drop _))
def jfs(h:cs.all cell=true)(k:ds.all cell=true):(updP cs off ds).all cell=true:=by
 unfold updP;rw[DF,DF,je9 h,k,j8p h];rfl
def jei{x:PV}(h:R m φ x v):Rl m φ x.cells v.cells.toList:=by
 cases h with
 |yl hp=>simp only[PV.cells,Value.cells];exact .cons (.yl hp) .nil
 |mr hp=>simp only[PV.cells,Value.cells];exact .cons (.mr hp) .nil
 |cr hp=>simp only[PV.cells,Value.cells];exact .cons (.cr hp) .nil
 |un h=>
  have e:v.cells.toList=[v]:=by cases v<;>simp_all[Value.oneCell',Value.cells]
  rw[e];exact .cons (.un h) .nil
 |ag hl hc hi=>simp only[PV.cells,Value.cells];exact⟨hl,hi⟩
 | @sc _ v h=>
  have:v.cells.toList=[v]:=by cases v<;>simp[isSc] at h<;>simp[Value.cells]
  rw[this];exact .cons (.sc h) .nil
 |tu hl hi=>simp only[PV.cells,Value.cells];exact .cons (.tu hl hi) .nil
 |sl b off g ha qB wA hA hC hr gA=>simp only[PV.cells,Value.cells];exact .cons (.sl b off g ha qB wA hA hC hr gA) .nil
 |ms hφ hB hv hs=>
  obtain⟨_,_,_,rfl⟩:=hs;simp only[PV.cells,Value.cells];exact .cons (.ms hφ hB hv ⟨_,_,_,rfl⟩) .nil
 |bp hφ=>simp only[PV.cells,Value.cells];exact .cons (.bp hφ) .nil
 |rp hφ hB hv hp=>
  obtain⟨_,_,rfl⟩:=hp;simp only[PV.cells,Value.cells];exact .cons (.rp hφ hB hv ⟨_,_,rfl⟩) .nil
 |cp hl qA hc hi=>simp only[PV.cells,Value.cells];exact .cons (.cp hl qA hc hi) .nil
 |ci hl qA hc hi=>simp only[PV.cells,Value.cells];exact .cons (.ci hl qA hc hi) .nil
 |fn hl gB hi wB=>simp only[PV.cells,Value.cells];exact .cons (.fn hl gB hi wB) .nil
 |ifc hi=>simp only[PV.cells,Value.cells];exact .cons (.ifc hi) .nil
def ji5{place:Nat→Option (Nat×Nat)}:∀{pv:List (Nat×PV)}{vv:List (Nat×Value)}{cs ds:List PV}{us:List Value},jcO place cs pv=some ds→Rl m φ cs us→cs.all cell=true →
  (pv.length=vv.length∧∀(i:Nat) p v,pv[i]?=some p→vv[i]?=some v→p.1=v.1∧R m φ p.2 v.2)→∃ws,Gw.fillL place us vv=some ws∧Rl m φ ds ws∧ds.all cell=true
 |[],vv,cs,ds,us,h,hr,hc,hp=>by
  cases vv with
  |nil=>simp[jcO] at h;subst h;exact⟨us,by simp[Gw.fillL],hr,hc⟩
  |cons _ _=>exact absurd hp.1 (by simp)
 |(i,x)::pv,vv,cs,ds,us,h,hr,hc,hp=>by
  cases vv with
  |nil=>exact absurd hp.1 (by simp)
  |cons v0 vv=>
   obtain⟨i',v⟩:=v0;obtain⟨rfl,hA⟩:=hp.2 0 (i,x) (i',v) rfl rfl;simp only at hA;have wA:pv.length=vv.length∧∀(j:Nat) p v,pv[j]?=some p→vv[j]?=some v→p.1=v.1∧R m φ p.2 v.2:=⟨by have:=hp.1;simpa using this,fun j p v h1 h2=>hp.2 (j+1) p v (by simpa using h1) (by simpa using h2)⟩
   have qA:=jei hA;simp only[jcO] at h;simp only[Gw.fillL];split at h
   ·rename_i off size gA;split at h
    ·rename_i hb;simp only[AB] at hb;rw[qA.1] at hb;rw[hr.1] at hb;simp only[gA,hb.1.1,hb.1.2];exact ji5 h (jpK hr qA) (jfs hc hb.2) wA
    ·cases h
   ·cases h
def jhI(h:EnvR m φ ρ a):∀{xs:List (Nat×Operand)}{us:List (Nat×PV)},jhH ρ xs=some us→us.length=(xs.map fun p=>(p.1,a.eval p.2)).length∧∀(i:Nat) p v,us[i]?=some p→(xs.map fun p=>(p.1,a.eval p.2))[i]?=some v→p.1=v.1∧R m φ p.2 v.2
 |[],us,hx=>by simp[jhH] at hx;subst hx;simp
 |(j,x)::xs,us,hx=>by
  simp only[jhH] at hx;cases h1:aval ρ x with
  |none=>simp[h1] at hx
  |some u=>
   cases h2:jhH ρ xs with
   |none=>simp[h1,h2] at hx
   |some l=>
    simp only[h1,h2,AD] at hx;subst hx;obtain⟨h3,h4⟩:=jhI h h2;refine⟨by simpa using h3,fun i p v hp hv=>?_⟩
    cases i with
    |zero=>simp at hp hv;subst hp;subst hv;exact⟨rfl,j0j h h1⟩
    |succ i=>exact h4 i p v (by simpa using hp) (by simpa using hv)
def jl9{parts:Array (Nat×Operand)}(h:EnvR m φ ρ a)(hx:jmN P ρ T parts=some u):Does P w a m φ ⟨dst,.build T parts,ty,pos,after,gd⟩ u:=by
 unfold jmN at hx;split at hx
 ·rename_i pv zs wA hz;split at hx
  ·rename_i pl ht;cases hf:jcO (fun i=>pl[i]?) zs pv with
   |none=>simp[hf] at hx
   |some cs=>
    simp only[hf,AY,AD] at hx;subst hx;unfold jcC at hz;split at hz
    ·rename_i z qA;obtain⟨hr,hc⟩:=j4r (m:=m) (φ:=φ) hz;obtain⟨ws,h1,h2,h3⟩:=ji5 hf hr hc (jhI h wA);refine⟨.agg ws.toArray,?_,.ag h2.1 h3 h2.2⟩;have hA:=Gw.fill_of_fillL _ _ _ _ h1;unfold tpl at ht;split at ht
     ·rename_i fs gB;cases hi:P.info? T with
      |none=>simp[tz,hi] at qA
      |some ii=>
       simp[tz,hi] at qA;have hm:=Gw.mapM_places ht w;have qB:(fs.mapM (m:=Sem) fun f=>do pure (f.offset,←sizeOf f.type)).run P w=.ok pl.toArray w:=by
        rw[FU,Sem.run_map,hm];rfl
       simp only[GU] at hA;have gA:(zeroValue T).run P w=.ok z w:=by simp[zeroValue,typeInfo,hi,qA]
       have hB:(parts.map fun x=>(x.1,a.eval x.2)).toList=parts.toList.map fun p=>(p.1,a.eval p.2):=by simp
       simp only[execOp,Instr.build,Sem.run_bind,gA,Result.andThen_ok,run_underlying gB,qB,Sem.run_pure,FG,hB,hA]
     ·cases ht
    ·cases hz
  ·cases hx
 ·cases hx
def j8f{cs:List Value}(ht:tk P T=some (ag,k))(hc:∀(j:Nat) u,cs[j]?=some u→w.cell? ⟨b,off+j,none⟩=some u)(hv:Gw.loadV ag cs 0 k=some v):
  (loadVar T ⟨b,off,none⟩).run P w=.ok v w:=by
 unfold tk at ht;split at ht
 ·rename_i dd ii gA hB;simp only[AD,BB] at ht;obtain⟨h1,h2⟩:=ht;cases ag with
  |true=>
   simp only[Gw.loadV] at hv;split at hv
   ·rename_i wA;simp only[AD] at hv;subst hv;have qA:0+k≤cs.length:=AM wA;have hl:(loadCells ⟨b,off,none⟩ k).run P w=.ok (Gw.cut cs 0 k).toArray w:=by
     have:=run_loadCells_list (P:=P) w ⟨b,off,none⟩ (Gw.cut cs 0 k) (fun j u hu=>by
      rw[Addr.add_lit];have:=Gw.cut_get hu;rw[AP] at this;exact hc _ _ this)
     rwa [Gw.cut_length qA] at this
    have hA:(isAgg T).run P w=.ok true w:=by
     unfold isAgg;cases dd<;>simp[isAggD] at h1<;>simp[run_underlying gA]
    simp[loadVar,hA,sizeOf,typeInfo,hB,h2,hl]
   ·cases hv
  |false=>
   simp only[Gw.loadV] at hv;have hA:(isAgg T).run P w=.ok false w:=by
    unfold isAgg;cases dd<;>simp[isAggD] at h1<;>simp[run_underlying gA]
   have:=hc 0 v hv;simp only[DB] at this;simp[loadVar,hA,load,Sem.run,this]
 ·cases ht
def jld(hm:MemW m w)(h:EnvR m φ ρ a)(hx:jcY P ρ T x=some u):Does P w a m φ ⟨dst,.load T x,ty,pos,after,gd⟩ u:=by
 unfold jcY at hx;split at hx
 ·rename_i ag k cs ht hp;have hr:=j0j h hp;generalize he:a.eval x=ev at hr;cases hr with
  | @cp _ _ b off vs hl hA hc hi=>
   obtain⟨v,h1,h2⟩:=j7Z hx ⟨hl,hi⟩ hc;have:=j8f (P:=P) (w:=w) (b:=b) (off:=off) ht (fun j u hu=>hm _ _ _ (hA j u hu)) h1
   exact⟨v,by simp[execOp,Instr.loadAt,he,Instr.sureAddr,this],h2.any⟩
 ·rename_i ag k cs ht hp;have hr:=j0j h hp;generalize he:a.eval x=ev at hr;cases hr with
  | @ci _ _ b off vs hl hA hc hi=>
   obtain⟨v,h1,h2⟩:=j7Z hx ⟨hl,hi⟩ hc;have:=j8f (P:=P) (w:=w) (b:=b) (off:=off) ht (fun j u hu=>hm _ _ _ (hA j u hu)) h1
   exact⟨v,by simp[execOp,Instr.loadAt,he,Instr.sureAddr,this],h2⟩
 ·cases hx
def jg7{b:Builtin}{xs:Array Operand}{ts:Array TypeId}(h:EnvR m φ ρ a)(hx:j8n P ρ b xs.toList ts.toList=some u):Does P w a m φ ⟨dst,.call ⟨.builtin b,xs,ts⟩,ty,pos,after,gd⟩ u:=by
 unfold j8n at hx;split at hx
 ·rename_i x T hA qA;obtain rfl:xs = #[x]:=by apply Array.ext';simpa using hA
  obtain rfl:ts = #[T]:=by apply Array.ext';simpa using qA
  cases hv:aval ρ x with
  |none=>simp[hv] at hx
  |some v=>
   simp only[hv,EF] at hx;have hr:=j0j h hv;unfold lenP at hx;split at hx
   ·rename_i full sz ys;split at hx
    ·rename_i e ht;cases hx;generalize he:a.eval x=ev at hr;cases hr with
     | @sl _ _ _ _ ad cap b off g ha qB hB wA wB gB gA=>
      refine⟨_,?_,.sc rfl⟩;unfold tsl at ht;split at ht
      ·rename_i e' hC;simp[execOp,resolve,invoke,builtin,Builtin.len_,he,run_underlying hC,goInt]
      ·cases ht
    ·cases hx
   ·rename_i v;have e:=hr.sc_eq;cases hq:qrun P (Builtin.len_ #[T] 0 #[v]) with
    |none=>simp[hq] at hx
    |some r=>
     rw[hq] at hx;have h1:(Builtin.len_ #[T] ty #[v]).run P w=.ok r w:=j3T w hq;exact⟨r,by simp[execOp,resolve,invoke,builtin,e,h1],j4s hx⟩
   ·cases hx
 ·rename_i x y T U hA qA;obtain rfl:xs = #[x,y]:=by apply Array.ext';simpa using hA
  obtain rfl:ts = #[T,U]:=by apply Array.ext';simpa using qA
  split at hx
  ·rename_i v1 v2 h1 h2;have e1:=(j0j h h1).sc_eq;have e2:=(j0j h h2).sc_eq;cases hq:qrun P (Builtin.max_ #[T,U] 0 #[v1,v2]) with
   |none=>simp[hq] at hx
   |some r=>
    rw[hq] at hx;have h1:(Builtin.max_ #[T,U] ty #[v1,v2]).run P w=.ok r w:=j3T w hq;exact⟨r,by simp[execOp,resolve,invoke,builtin,e1,e2,h1],j4s hx⟩
  ·cases hx
 ·rename_i x y T U hA qA;obtain rfl:xs = #[x,y]:=by apply Array.ext';simpa using hA
  obtain rfl:ts = #[T,U]:=by apply Array.ext';simpa using qA
  split at hx
  ·rename_i v1 v2 h1 h2;have e1:=(j0j h h1).sc_eq;have e2:=(j0j h h2).sc_eq;cases hq:qrun P (Builtin.min_ #[T,U] 0 #[v1,v2]) with
   |none=>simp[hq] at hx
   |some r=>
    rw[hq] at hx;have h1:(Builtin.min_ #[T,U] ty #[v1,v2]).run P w=.ok r w:=j3T w hq;exact⟨r,by simp[execOp,resolve,invoke,builtin,e1,e2,h1],j4s hx⟩
  ·cases hx
 ·rename_i x hA;obtain rfl:xs = #[x]:=by apply Array.ext';simpa using hA
  split at hx
  ·rename_i f z ys hv;split at hx
   ·split at hx
    ·rename_i hb;cases hx;rw[AB] at hb;have hr:=j0j h hv;generalize he:a.eval x=ev at hr;cases hr with
     | @sl _ _ _ _ ad cap b off g ha qB hB wA wB gB gA=>
      obtain rfl:=gA hb.1 (AH hb.2);exact⟨.pointer none,by simp[execOp,resolve,invoke,builtin,he,Lib.run_unsafeSliceData_nil],.sc rfl⟩
    ·cases hx
   ·cases hx
  ·cases hx
 ·rename_i x y T U hA qA;obtain rfl:xs = #[x,y]:=by apply Array.ext';simpa using hA
  obtain rfl:ts = #[T,U]:=by apply Array.ext';simpa using qA
  split at hx
  ·rename_i v1 v2 h1 h2;have e1:=(j0j h h1).sc_eq;have e2:=(j0j h h2).sc_eq;cases hq:qrun P (Builtin.unsafeString_ #[T,U] 0 #[v1,v2]) with
   |none=>simp[hq] at hx
   |some r=>
    rw[hq] at hx;have h1:(Builtin.unsafeString_ #[T,U] ty #[v1,v2]).run P w=.ok r w:=j3T w hq;exact⟨r,by simp[execOp,resolve,invoke,builtin,e1,e2,h1],j4s hx⟩
  ·cases hx
 ·cases hx
def jrZ{op:Op}(hm:MemW m w)(h:EnvR m φ ρ a)(hx:aP P ρ op=some u):Does P w a m φ ⟨dst,op,ty,pos,after,gd⟩ u:=by
 unfold aP at hx;split at hx
 ·exact jnB h hx
 ·exact jhW h hx
 ·exact jnC h hx
 ·exact jqk h hx
 ·exact jg8 h hx
 ·exact jqj h hx
 ·exact jsW h hx
 ·exact jnA hm h hx
 ·exact jlb h hx
 ·exact jsU h hx
 ·exact jle h hx
 ·exact jcL h hx
 ·exact jla h hx
 ·exact jcM h hx
 ·exact jlc h hx
 ·exact jhV h hx
 ·exact jl9 h hx
 ·exact jld hm h hx
 ·exact jg7 h hx
 ·cases hx
end

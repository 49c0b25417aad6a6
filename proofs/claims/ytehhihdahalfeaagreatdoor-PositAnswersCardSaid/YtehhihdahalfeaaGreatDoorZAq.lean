/-
  How the plain machine's values lie in memory. Plain definitions and lemmas, no statement of the seat.
-/
import Derived.Test.YtehhihdahalfeaaGreatDoorZAm
set_option linter.unusedVariables false
set_option linter.unusedSimpArgs false
set_option linter.unnecessarySimpa false
namespace Go.Am
open Go Go.Hb
def RdN (m:Mem) (b off:Nat) (vs:List Value):Prop:=∀ j v,vs[j]? = some v→m b (off + j)=some v
theorem RdN.mono {m m':Mem} {b off:Nat} {vs:List Value} (h:RdN m b off vs) (hle:Mem.le m m'):RdN m' b off vs:=fun j v hv=>hle _ _ _ (h j v hv)
/-- where one of the store's things lies -/
inductive Phi where
  |blk (b:Nat)
  |row (sv:Value) (n sz:Nat)
abbrev Ph:=Nat→Option Phi
def noPh:Ph:=fun _=>none
inductive R (m:Mem):Ph→PV→Value→Prop where
  |sc {φ:Ph} {v:Value} (h:isSc v=true):R m φ (.sc v) v
  |ag {φ:Ph} {cs:List PV} {vs:List Value} (hl:cs.length=vs.length) (hc:cs.all cell=true) (h:∀ (i:Nat) c v,cs[i]? = some c→vs[i]? = some v→R m φ c v):R m φ (.ag cs) (.agg vs.toArray)
  |tu {φ:Ph} {cs:List PV} {vs:List Value} (hl:cs.length=vs.length) (h:∀ (i:Nat) c v,cs[i]? = some c→vs[i]? = some v→R m φ c v):R m φ (.tu cs) (.tuple vs.toArray)
  |sl {φ:Ph} {full:Bool} {sz:Nat} {xs:List PV} {a:Option Addr} {cap:Nat} (b off:Nat) (g:Nat→List Value) (ha:xs ≠ []→a=some ⟨b,off,none⟩) (hcap:xs.length ≤ cap) (hmax:cap ≤ maxLen) (hfull:full=true→cap=xs.length)
      (hel:∀ (i:Nat) x,xs[i]? = some x→x.cells.length=sz∧(g i).length=sz∧RdN m b (off + i * sz) (g i)∧x.cells.all cell=true)
      (hr:∀ (i:Nat) x (j:Nat) c v,xs[i]? = some x→x.cells[j]? = some c→(g i)[j]? = some v→R m noPh c v) (hnil:full=true→sz=0→a=none):R m φ (.sl full sz xs) (.slice a xs.length cap)
  |ms {φ:Ph} {id len n sz:Nat} {sv v:Value} (hφ:φ id=some (.row sv n sz)) (hle:len ≤ n) (hv:len=n→v=sv) (hs:∃ a l c,v = .slice a l c):R m φ (.ms id len) v
  |bp {φ:Ph} {id off b:Nat} (hφ:φ id=some (.blk b)):R m φ (.bp id off) (.pointer (some ⟨b,off,none⟩))
  |rp {φ:Ph} {id len i off n sz:Nat} {sv v:Value} (hφ:φ id=some (.row sv n sz)) (hle:len ≤ n) (hv:len=n→∃ b cap,sv = .slice (some ⟨b,0,none⟩) n cap∧v = .pointer (some ⟨b,i * sz + off,none⟩)) (hp:∃ b o,v = .pointer (some ⟨b,o,none⟩)):R m φ (.rp id len i off) v
  |cp {φ:Ph} {cs:List PV} {b off:Nat} {vs:List Value} (hl:cs.length=vs.length) (hrd:RdN m b off vs) (hc:cs.all cell=true) (h:∀ (i:Nat) c v,cs[i]? = some c→vs[i]? = some v→R m noPh c v):R m φ (.cp cs) (.pointer (some ⟨b,off,none⟩))
  |ci {φ:Ph} {cs:List PV} {b off:Nat} {vs:List Value} (hl:cs.length=vs.length) (hrd:RdN m b off vs) (hc:cs.all cell=true) (h:∀ (i:Nat) c v,cs[i]? = some c→vs[i]? = some v→R m φ c v):R m φ (.ci cs) (.pointer (some ⟨b,off,none⟩))
  |fn {φ:Ph} {f:FuncId} {as bs:List PV} {us vs:List Value} (hl:as.length=us.length) (hl':bs.length=vs.length) (h:∀ (i:Nat) c v,as[i]? = some c→us[i]? = some v→R m φ c v) (h':∀ (i:Nat) c v,bs[i]? = some c→vs[i]? = some v→R m φ c v):R m φ (.fn f as bs) (.func (.func f) us.toArray vs.toArray)
  |ifc {φ:Ph} {t:TypeId} {x:PV} {v:Value} (h:R m φ x v):R m φ (.ifc t x) (.iface t v)
  |yl {φ:Ph} {id l:Nat} (hφ:φ id=some (.blk l)):R m φ (.yl id) (.func (.yield l) #[] #[])
/-- a list of values -/
def Rl (m:Mem) (φ:Ph) (cs:List PV) (vs:List Value):Prop:=cs.length=vs.length∧∀ (i:Nat) c v,cs[i]? = some c→vs[i]? = some v→R m φ c v
theorem Rl.nil {m:Mem} {φ:Ph}:Rl m φ [] []:=⟨rfl,fun i c v h=>by simp at h⟩
theorem Rl.cons {m:Mem} {φ:Ph} {c:PV} {v:Value} {cs:List PV} {vs:List Value} (h:R m φ c v) (hs:Rl m φ cs vs):Rl m φ (c :: cs) (v :: vs):=by
  refine ⟨by simp [hs.1],fun i c' v' h1 h2=>?_⟩
  cases i with
  |zero=>simp at h1 h2; subst h1; subst h2; exact h
  |succ i=>exact hs.2 i c' v' (by simpa using h1) (by simpa using h2)
theorem Rl.uncons {m:Mem} {φ:Ph} {c:PV} {cs:List PV} {ws:List Value} (h:Rl m φ (c :: cs) ws):∃ v vs,ws=v :: vs∧R m φ c v∧Rl m φ cs vs:=by
  cases ws with
  |nil=>exact absurd h.1 (by simp)
  |cons v vs=>exact ⟨v,vs,rfl,h.2 0 c v rfl rfl,⟨by have:=h.1; simpa using this,fun i c' v' h1 h2=>h.2 (i + 1) c' v' (by simpa using h1) (by simpa using h2)⟩⟩
theorem Rl.get {m:Mem} {φ:Ph} {cs:List PV} {vs:List Value} (h:Rl m φ cs vs) {i:Nat} {c:PV} (hc:cs[i]? = some c):∃ v,vs[i]? = some v∧R m φ c v:=by
  have hi:=(List.getElem?_eq_some_iff.1 hc).1
  have hv:vs[i]? = some (vs[i]'(by have:=h.1; omega)):=List.getElem?_eq_getElem _
  exact ⟨_,hv,h.2 i c _ hc hv⟩
theorem Rl.append {m:Mem} {φ:Ph} {as bs:List PV} {us vs:List Value} (h:Rl m φ as us) (k:Rl m φ bs vs):Rl m φ (as ++ bs) (us ++ vs):=by
  refine ⟨by simp [h.1,k.1],fun i c v h1 h2=>?_⟩
  by_cases hi:i < as.length
  · rw [List.getElem?_append_left hi] at h1
    rw [List.getElem?_append_left (by have:=h.1; omega)] at h2
    exact h.2 i c v h1 h2
  · rw [List.getElem?_append_right (by omega)] at h1
    rw [List.getElem?_append_right (by have:=h.1; omega),← h.1] at h2
    exact k.2 _ c v h1 h2
theorem Rl.take {m:Mem} {φ:Ph} {cs:List PV} {vs:List Value} (h:Rl m φ cs vs) (k:Nat):Rl m φ (cs.take k) (vs.take k):=by
  refine ⟨by simp [h.1],fun i c v h1 h2=>?_⟩
  rw [List.getElem?_take] at h1 h2
  split at h1
  · rename_i hi; rw [if_pos hi] at h2; exact h.2 i c v h1 h2
  · cases h1
theorem Rl.drop {m:Mem} {φ:Ph} {cs:List PV} {vs:List Value} (h:Rl m φ cs vs) (k:Nat):Rl m φ (cs.drop k) (vs.drop k):=by
  refine ⟨by simp [h.1],fun i c v h1 h2=>?_⟩
  rw [List.getElem?_drop] at h1 h2
  exact h.2 _ c v h1 h2
/-- a later state -/
def Le (φ φ':Ph):Prop:=∀ id,(∀ b,φ id=some (.blk b)→φ' id=some (.blk b))∧∀ sv n sz,φ id=some (.row sv n sz)→∃ sv' n',φ' id=some (.row sv' n' sz)∧((n'=n∧sv'=sv)∨n < n')
theorem Le.refl (φ:Ph):Le φ φ:=fun id=>⟨fun _ h=>h,fun sv n sz h=>⟨sv,n,h,.inl ⟨rfl,rfl⟩⟩⟩
theorem Le.trans {φ φ' φ'':Ph} (h:Le φ φ') (k:Le φ' φ''):Le φ φ'':=fun id=>⟨fun b e=>(k id).1 b ((h id).1 b e),fun sv n sz e=>by
  obtain ⟨sv',n',h1,h2⟩:=(h id).2 sv n sz e
  obtain ⟨sv'',n'',h3,h4⟩:=(k id).2 sv' n' sz h1
  refine ⟨sv'',n'',h3,?_⟩
  rcases h2 with ⟨rfl,rfl⟩|h2
  · exact h4
  · rcases h4 with ⟨rfl,rfl⟩|h4
    · exact .inr h2
    · exact .inr (Nat.lt_trans h2 h4)⟩
theorem Le.none (φ:Ph):Le noPh φ:=fun id=>⟨fun b h=>by simp [noPh] at h,fun sv n sz h=>by simp [noPh] at h⟩
theorem R.mono {m m':Mem} (hm:Mem.le m m') {φ:Ph} {x:PV} {v:Value} (h:R m φ x v):∀ {φ':Ph},Le φ φ'→R m' φ' x v:=by
  induction h with
  |sc h=>intro φ' _; exact .sc h
  |ag hl hc _ ih=>intro φ' hle; exact .ag hl hc fun i c v h1 h2=>ih i c v h1 h2 hle
  |tu hl _ ih=>intro φ' hle; exact .tu hl fun i c v h1 h2=>ih i c v h1 h2 hle
  |sl b off g ha hcap hmax hfull hel hr hnil ih =>
    intro φ' _
    exact .sl b off g ha hcap hmax hfull (fun i x hx=>⟨(hel i x hx).1,(hel i x hx).2.1,(hel i x hx).2.2.1.mono hm,(hel i x hx).2.2.2⟩) (fun i x j c v h1 h2 h3=>ih i x j c v h1 h2 h3 (Le.refl _)) hnil
  |ms hφ hle hv hs =>
    intro φ' hl
    obtain ⟨sv',n',h1,h2⟩:=(hl _).2 _ _ _ hφ
    rcases h2 with ⟨rfl,rfl⟩|h2
    · exact .ms h1 hle hv hs
    · exact .ms h1 (by omega) (fun e=>absurd e (by omega)) hs
  |bp hφ=>intro φ' hl; exact .bp ((hl _).1 _ hφ)
  |rp hφ hle hv hp =>
    intro φ' hl
    obtain ⟨sv',n',h1,h2⟩:=(hl _).2 _ _ _ hφ
    rcases h2 with ⟨rfl,rfl⟩|h2
    · exact .rp h1 hle hv hp
    · exact .rp h1 (by omega) (fun e=>absurd e (by omega)) hp
  |cp hl hrd hc _ ih=>intro φ' _; exact .cp hl (hrd.mono hm) hc fun i c v h1 h2=>ih i c v h1 h2 (Le.refl _)
  |ci hl hrd hc _ ih=>intro φ' hle; exact .ci hl (hrd.mono hm) hc fun i c v h1 h2=>ih i c v h1 h2 hle
  |fn hl hl' _ _ ih ih'=>intro φ' hle; exact .fn hl hl' (fun i c v h1 h2=>ih i c v h1 h2 hle) (fun i c v h1 h2=>ih' i c v h1 h2 hle)
  |ifc _ ih=>intro φ' hle; exact .ifc (ih hle)
  |yl hφ=>intro φ' hl; exact .yl ((hl _).1 _ hφ)
theorem Rl.mono {m m':Mem} (hm:Mem.le m m') {φ φ':Ph} (hle:Le φ φ') {cs:List PV} {vs:List Value} (h:Rl m φ cs vs):Rl m' φ' cs vs :=
  ⟨h.1,fun i c v h1 h2=>(h.2 i c v h1 h2).mono hm hle⟩
theorem pur_up:∀ {n:Nat} {x:PV},pur n x=true→pur (n + 1) x=true
  |0,_,h=>by simp [pur] at h
  |n + 1,x,h=>by
    have hall:∀ {l:List PV},l.all (pur n)=true→l.all (pur (n + 1))=true:=fun hl=>List.all_eq_true.2 fun c hc=>pur_up (List.all_eq_true.1 hl c hc)
    cases x with
    |ag cs=>simp only [pur] at h; unfold pur; exact hall h
    |tu cs=>simp only [pur] at h; unfold pur; exact hall h
    |fn f a b=>simp only [pur,Bool.and_eq_true] at h; unfold pur; simp only [Bool.and_eq_true]; exact ⟨hall h.1,hall h.2⟩
    |ifc t x=>simp only [pur] at h; unfold pur; exact pur_up h
    |_=>first|(simp [pur] at h; done)|(simp [pur]; done)
/-- what is free of the store's numbers -/
theorem R.pure {m:Mem}:∀ (n:Nat) {φ:Ph} {x:PV} {v:Value},pur n x=true→R m φ x v→R m noPh x v
  |0,_,_,_,h,_=>by simp [pur] at h
  |n + 1,φ,x,v,h,hr=>by
    have hall:∀ {l:List PV} {ws:List Value},l.all (pur n)=true→(∀ (i:Nat) c v,l[i]? = some c→ws[i]? = some v→R m φ c v)→∀ (i:Nat) c v,l[i]? = some c→ws[i]? = some v→R m noPh c v:=fun hl hi i c v h1 h2 =>
      R.pure n (List.all_eq_true.1 hl c (List.mem_of_getElem? h1)) (hi i c v h1 h2)
    cases hr with
    |sc h1=>exact .sc h1
    |ag hl hc hi=>simp only [pur] at h; exact .ag hl hc (hall h hi)
    |tu hl hi=>simp only [pur] at h; exact .tu hl (hall h hi)
    |sl b off g ha hcap hmax hfull hel hr hnil=>exact .sl b off g ha hcap hmax hfull hel hr hnil
    |ms=>simp [pur] at h
    |bp=>simp [pur] at h
    |rp=>simp [pur] at h
    |yl=>simp [pur] at h
    |cp hl hrd hc hi=>exact .cp hl hrd hc hi
    |ci=>simp [pur] at h
    |fn hl hl' hi hi'=>simp only [pur,Bool.and_eq_true] at h; exact .fn hl hl' (hall h.1 hi) (hall h.2 hi')
    |ifc hi=>simp only [pur] at h; exact .ifc (R.pure n h hi)
theorem Rl.pure {m:Mem} {n:Nat} {φ:Ph} {cs:List PV} {vs:List Value} (h:cs.all (pur n)=true) (hr:Rl m φ cs vs):Rl m noPh cs vs :=
  ⟨hr.1,fun i c v h1 h2=>R.pure n (List.all_eq_true.1 h c (List.mem_of_getElem? h1)) (hr.2 i c v h1 h2)⟩
theorem R.any {m:Mem} {φ:Ph} {x:PV} {v:Value} (h:R m noPh x v):R m φ x v:=h.mono (Mem.le.refl m) (Le.none φ)
theorem Rl.any {m:Mem} {φ:Ph} {cs:List PV} {vs:List Value} (h:Rl m noPh cs vs):Rl m φ cs vs:=h.mono (Mem.le.refl m) (Le.none φ)
/-! numbers of the store within a set -/
theorem inIds_up {f:Nat→Bool}:∀ {n:Nat} {x:PV},inIds f n x=true→inIds f (n + 1) x=true
  |0,_,h=>by simp [inIds] at h
  |n + 1,x,h=>by
    have hall:∀ {l:List PV},l.all (inIds f n)=true→l.all (inIds f (n + 1))=true:=fun hl=>List.all_eq_true.2 fun c hc=>inIds_up (List.all_eq_true.1 hl c hc)
    cases x with
    |ag cs=>simp only [inIds] at h; unfold inIds; exact hall h
    |tu cs=>simp only [inIds] at h; unfold inIds; exact hall h
    |ci cs=>simp only [inIds] at h; unfold inIds; exact hall h
    |fn g a b=>simp only [inIds,Bool.and_eq_true] at h; unfold inIds; simp only [Bool.and_eq_true]; exact ⟨hall h.1,hall h.2⟩
    |ifc t x=>simp only [inIds] at h; unfold inIds; exact inIds_up h
    |_=>first|(simp only [inIds] at h ⊢; exact h)|(simp [inIds]; done)
def only (f:Nat→Bool) (φ:Ph):Ph:=fun id=>match f id with
  |true=>φ id
  |false=>none
theorem R.only {m:Mem} (f:Nat→Bool):∀ (n:Nat) {φ:Ph} {x:PV} {v:Value},inIds f n x=true→R m φ x v→R m (only f φ) x v
  |0,_,_,_,h,_=>by simp [inIds] at h
  |n + 1,φ,x,v,h,hr=>by
    have hall:∀ {l:List PV} {ws:List Value},l.all (inIds f n)=true→(∀ (i:Nat) c v,l[i]? = some c→ws[i]? = some v→R m φ c v)→∀ (i:Nat) c v,l[i]? = some c→ws[i]? = some v→R m (Am.only f φ) c v:=fun hl hi i c v h1 h2 =>
      R.only f n (List.all_eq_true.1 hl c (List.mem_of_getElem? h1)) (hi i c v h1 h2)
    cases hr with
    |sc h1=>exact .sc h1
    |ag hl hc hi=>simp only [inIds] at h; exact .ag hl hc (hall h hi)
    |tu hl hi=>simp only [inIds] at h; exact .tu hl (hall h hi)
    |sl b off g ha hcap hmax hfull hel hr hnil=>exact .sl b off g ha hcap hmax hfull hel hr hnil
    |ms hφ hle hv hs=>simp only [inIds] at h; exact .ms ((by simp [Am.only,h]:Am.only f φ _=φ _).trans hφ) hle hv hs
    |bp hφ=>simp only [inIds] at h; exact .bp ((by simp [Am.only,h]:Am.only f φ _=φ _).trans hφ)
    |rp hφ hle hv hp=>simp only [inIds] at h; exact .rp ((by simp [Am.only,h]:Am.only f φ _=φ _).trans hφ) hle hv hp
    |cp hl hrd hc hi=>exact .cp hl hrd hc hi
    |ci hl hrd hc hi=>simp only [inIds] at h; exact .ci hl hrd hc (hall h hi)
    |fn hl hl' hi hi'=>simp only [inIds,Bool.and_eq_true] at h; exact .fn hl hl' (hall h.1 hi) (hall h.2 hi')
    |ifc hi=>simp only [inIds] at h; exact .ifc (R.only f n h hi)
    |yl hφ=>simp only [inIds] at h; exact .yl ((by simp [Am.only,h]:Am.only f φ _=φ _).trans hφ)
theorem Rl.only {m:Mem} {f:Nat→Bool} {n:Nat} {φ:Ph} {cs:List PV} {vs:List Value} (h:cs.all (inIds f n)=true) (hr:Rl m φ cs vs):Rl m (only f φ) cs vs :=
  ⟨hr.1,fun i c v h1 h2=>R.only f n (List.all_eq_true.1 h c (List.mem_of_getElem? h1)) (hr.2 i c v h1 h2)⟩
/-! cells of a value -/
theorem R.one {m:Mem} {φ:Ph} {x:PV} {v:Value} (h:R m φ x v) (hc:cell x=true):v.oneCell'=true:=by
  cases h with
  |sc h=>cases v <;> simp [isSc] at h <;> simp [Value.oneCell']
  |ag=>simp [cell] at hc
  |tu=>simp [cell] at hc
  |ms _ _ _ hs=>obtain ⟨a,l,c,rfl⟩:=hs; simp [Value.oneCell']
  |rp _ _ _ hp=>obtain ⟨_,_,rfl⟩:=hp; simp [Value.oneCell']
  |_=>simp [Value.oneCell']
end Go.Am
namespace Go.Am
open Go Go.Hb
open Go.Gw (tk tf tz tsl tar tpl isAggD)
theorem qrun_run {P:Program} {α:Type} (w:World):∀ {s:Sem α} {a:α},qrun P s=some a→s.run P w = .ok a w:=by
  intro s
  induction s with
  |pure b=>intro a h; simp [qrun] at h; subst h; simp [Sem.run]
  |program k ih=>intro a h; simp only [qrun] at h; simp only [Sem.run]; exact ih P h
  |mark m k ih=>intro a h; simp only [qrun] at h; simp only [Sem.run]; exact ih h
  |_=>intro a h; simp [qrun] at h
theorem mapO_cons {α β:Type} {f:α→Option β} {x:α} {l:List α} {r:List β} (h:mapO f (x :: l)=some r):∃ y r',r=y :: r'∧f x=some y∧mapO f l=some r':=by
  simp only [mapO] at h
  cases hf:f x with
  |none=>simp [hf] at h
  |some y =>
    cases hl:mapO f l with
    |none=>simp [hf,hl] at h
    |some r'=>simp [hf,hl] at h; exact ⟨y,r',h.symm,rfl,rfl⟩
theorem mapO_length {α β:Type} {f:α→Option β}:∀ {l:List α} {r:List β},mapO f l=some r→r.length=l.length
  |[],r,h=>by simp [mapO] at h; subst h; rfl
  |x :: l,r,h=>by
    obtain ⟨y,r',rfl,_,h2⟩:=mapO_cons h
    simp [mapO_length h2]
theorem mapO_get {α β:Type} {f:α→Option β}:∀ {l:List α} {r:List β},mapO f l=some r→∀ (i:Nat) x,l[i]? = some x→∃ y,r[i]? = some y∧f x=some y
  |[],r,h,i,x,hx=>by simp at hx
  |z :: l,r,h,i,x,hx=>by
    obtain ⟨y,r',rfl,hy,hl⟩:=mapO_cons h
    cases i with
    |zero=>simp at hx; subst hx; exact ⟨y,rfl,hy⟩
    |succ i=>simpa using mapO_get hl i x (by simpa using hx)
theorem mapO_back {α β:Type} {f:α→Option β} {l:List α} {r:List β} (h:mapO f l=some r) {i:Nat} {y:β} (hy:r[i]? = some y):∃ x,l[i]? = some x∧f x=some y:=by
  have hi:=(List.getElem?_eq_some_iff.1 hy).1
  rw [mapO_length h] at hi
  obtain ⟨y',h1,h2⟩:=mapO_get h i l[i] (List.getElem?_eq_getElem hi)
  rw [hy] at h1
  cases h1
  exact ⟨_,List.getElem?_eq_getElem hi,h2⟩
section
variable {P:Program} {m:Mem} {φ:Ph} {ρ:AEnv} {a:Act} {w:World}
theorem ofCell_R {v:Value} {x:PV} (h:ofCell v=some x):R m φ x v∧cell x=true:=by
  unfold ofCell at h
  split at h
  · cases h
    exact ⟨.sl (xs:=[]) 0 0 (fun _=>[]) (fun e=>absurd rfl e) (Nat.le_refl _) (by decide) (fun _=>rfl) (fun i x hx=>by simp at hx) (fun i x j c v hx=>by simp at hx) (fun _ _=>rfl),rfl⟩
  · split at h
    · rename_i hs; cases h; exact ⟨.sc hs,rfl⟩
    · cases h
theorem ofCells_R {vs:List Value} {cs:List PV} (h:mapO ofCell vs=some cs):Rl m φ cs vs∧cs.all cell=true:=by
  refine ⟨⟨mapO_length h,fun i c v hc hv=>?_⟩,List.all_eq_true.2 fun c hc=>?_⟩
  · obtain ⟨y,h1,h2⟩:=mapO_get h i v hv
    rw [hc] at h1
    cases h1
    exact (ofCell_R h2).1
  · obtain ⟨i,hi⟩:=List.getElem?_of_mem hc
    obtain ⟨v,_,h2⟩:=mapO_back h hi
    exact (ofCell_R (m:=m) (φ:=φ) h2).2
theorem ofVal_R {v:Value} {x:PV} (h:ofVal v=some x):R m φ x v:=by
  unfold ofVal at h
  split at h
  · rename_i cs
    cases hc:mapO ofCell cs.toList with
    |none=>simp [hc] at h
    |some l =>
      simp only [hc,Option.map_some,Option.some.injEq] at h
      subst h
      obtain ⟨h1,h2⟩:=ofCells_R (m:=m) (φ:=φ) hc
      have:=R.ag h1.1 h2 h1.2
      simpa using this
  · exact (ofCell_R h).1
theorem R.sc_eq {v u:Value} (h:R m φ (.sc v) u):u=v:=by cases h; rfl
theorem scOf_eq {x:PV} {v u:Value} (h:scOf x=some v) (hr:R m φ x u):u=v:=by
  unfold scOf at h
  split at h
  · cases h; exact hr.sc_eq
  · cases h
theorem toVal_eq {x:PV} {v u:Value} (h:toVal x=some v) (hr:R m φ x u):u=v:=by
  unfold toVal at h
  split at h
  · cases h; exact hr.sc_eq
  · rename_i cs
    cases hc:mapO scOf cs with
    |none=>simp [hc] at h
    |some l =>
      simp only [hc,Option.map_some,Option.some.injEq] at h
      subst h
      cases hr with
      | @ag _ _ vs hl _ hi =>
        have:l=vs:=by
          apply List.ext_getElem?
          intro i
          cases hv:vs[i]? with
          |none =>
            have:vs.length ≤ i:=List.getElem?_eq_none_iff.1 hv
            exact List.getElem?_eq_none_iff.2 (by rw [mapO_length hc]; omega)
          |some v =>
            have hi':=(List.getElem?_eq_some_iff.1 hv).1
            obtain ⟨y,h1,h2⟩:=mapO_get hc i cs[i] (List.getElem?_eq_getElem (by omega))
            rw [h1,scOf_eq h2 (hi i _ v (List.getElem?_eq_getElem (by omega)) hv)]
        rw [this]
  · cases h
/-! the environment -/
def EnvR (m:Mem) (φ:Ph) (ρ:AEnv) (a:Act):Prop:=∀ t x,aget ρ t=some x→∃ v,a.tmps[t]? = some v∧R m φ x v
def MemW (m:Mem) (w:World):Prop:=∀ b o v,m b o=some v→w.cell? ⟨b,o,none⟩=some v
theorem EnvR.mono {m':Mem} {φ':Ph} (h:EnvR m φ ρ a) (hm:Mem.le m m') (hle:Le φ φ'):EnvR m' φ' ρ a:=fun t x ht=>by
  obtain ⟨v,h1,h2⟩:=h t x ht
  exact ⟨v,h1,h2.mono hm hle⟩
theorem aval_R (h:EnvR m φ ρ a) {x:Operand} {u:PV} (hx:aval ρ x=some u):R m φ u (a.eval x):=by
  cases x with
  |tmp t =>
    obtain ⟨v,h1,h2⟩:=h t u hx
    simpa [Act.eval,h1] using h2
  |const v=>simpa [Act.eval] using ofVal_R (m:=m) (φ:=φ) (show ofVal v=some u from hx)
  |global g=>simp [aval] at hx
  |func f =>
    simp only [aval,Option.some.injEq] at hx
    subst hx
    exact .fn (us:=[]) (vs:=[]) rfl rfl (fun i c v h=>by simp at h) (fun i c v h=>by simp at h)
theorem avals_R (h:EnvR m φ ρ a) {xs:List Operand} {us:List PV} (hx:mapO (aval ρ) xs=some us):Rl m φ us (xs.map a.eval):=by
  refine ⟨by rw [mapO_length hx]; simp,fun i c v hc hv=>?_⟩
  obtain ⟨x,h1,h2⟩:=mapO_back hx hc
  rw [List.getElem?_map,h1] at hv
  simp only [Option.map_some,Option.some.injEq] at hv
  subst hv
  exact aval_R h h2
/-- the operation answers, the world is as it was -/
def Does (P:Program) (w:World) (a:Act) (m:Mem) (φ:Ph) (o:Oper) (x:PV):Prop:=∃ v,(execOp a.eval o).run P w = .ok (.value v) w∧R m φ x v
variable {dst:Option Nat} {ty:TypeId} {pos:String} {after:Array Edge} {gd:Option (Nat × Bool)}
theorem nat_int {x:PV} {q:Nat} {v:Value} (h:nat? x=some q) (hr:R m φ x v):∃ k,v = .int k (q:Int):=by
  unfold nat? at h
  split at h
  · split at h
    · cases h
      exact ⟨_,hr.sc_eq⟩
    · cases h
  · cases h
theorem ptr_some {x:PV} {v:Value} (h:isPtr x=true) (hr:R m φ x v):∃ b o,v = .pointer (some ⟨b,o,none⟩):=by
  cases hr with
  |bp=>exact ⟨_,_,rfl⟩
  |rp _ _ _ hp=>exact hp
  |cp=>exact ⟨_,_,rfl⟩
  |ci=>exact ⟨_,_,rfl⟩
  |_=>simp [isPtr] at h
theorem does_move {x:Operand} {u:PV} (h:EnvR m φ ρ a) (hx:aval ρ x=some u):Does P w a m φ ⟨dst,.move x,ty,pos,after,gd⟩ u:=⟨a.eval x,by simp [execOp],aval_R h hx⟩
theorem does_assign {x:Operand} {u:PV} (h:EnvR m φ ρ a) (hx:aval ρ x=some u):Does P w a m φ ⟨dst,.assign x,ty,pos,after,gd⟩ u:=⟨a.eval x,by simp [execOp],aval_R h hx⟩
theorem does_pick {c x y:Operand} {u:PV} (h:EnvR m φ ρ a) (hx:aPick ρ c x y=some u):Does P w a m φ ⟨dst,.pick c x y,ty,pos,after,gd⟩ u:=by
  unfold aPick at hx
  split at hx
  · rename_i b hc
    have he:=(aval_R h hc).sc_eq
    cases b with
    |true=>exact ⟨a.eval x,by simp [execOp,he,asBool],aval_R h hx⟩
    |false=>exact ⟨a.eval y,by simp [execOp,he,asBool],aval_R h hx⟩
  · cases hx
theorem does_nil {x:Operand} {u:PV} (h:EnvR m φ ρ a) (hx:aNil ρ x=some u):Does P w a m φ ⟨dst,.nilCheck x,ty,pos,after,gd⟩ u:=by
  unfold aNil at hx
  split at hx
  · rename_i p hp
    split at hx
    · rename_i hi
      cases hx
      have hr:=aval_R h hp
      obtain ⟨b,o,he⟩:=ptr_some hi hr
      exact ⟨_,by simp [execOp,he],he ▸ hr⟩
    · cases hx
  · cases hx
theorem does_extract {x:Operand} {i:Nat} {u:PV} (h:EnvR m φ ρ a) (hx:aExtract ρ x i=some u):Does P w a m φ ⟨dst,.extract x i,ty,pos,after,gd⟩ u:=by
  unfold aExtract at hx
  split at hx
  · rename_i vs hv
    have hr:=aval_R h hv
    generalize he:a.eval x=ev at hr
    cases hr with
    |tu hl hi =>
      rename_i ws
      obtain ⟨v,h1,h2⟩:=Rl.get ⟨hl,hi⟩ hx
      exact ⟨v,by simp [execOp,he,Instr.extract,h1],h2⟩
  · cases hx
theorem int_bin {op:BinOp} {T:TypeId} {x y:Operand} {i j:Int} {u:PV} (h:intBin op .i64 i j=some u):∃ v,(do eqGuard op T x y (.int .i64 i) (.int .i64 j); binOp op T (.int .i64 i) (.int .i64 j):Sem Value).run P w = .ok v w∧R m φ u v:=by
  unfold intBin at h
  split at h <;> first
    |(cases h; refine ⟨_,?_,.sc rfl⟩; simp [eqGuard,binOp,Op.intArith]; done)
    |(cases h; refine ⟨_,?_,.sc rfl⟩; simp [eqGuard,binOp,Op.intCmp]; done)
    |(cases h; refine ⟨_,?_,.sc rfl⟩; simp [eqGuard,binOp,Op.intCmp]; rfl)
    |cases h
theorem equal_once {T:TypeId} {d:TypeDesc} {u v:Value} {r:Bool} (hT:P.underlying T=some d)
    (h:(d,u,v)=(d,u,v)→(match d,u,v with
      | .pointer _,.pointer none,.pointer b=>some b.isNone
      | .pointer _,.pointer _,.pointer none=>some false
      | .interface _,.nilIface,.iface _ _ | .interface _,.iface _ _,.nilIface=>some false
      | .func _ _ _,.func _ _ _,.nilFunc=>some false
      | .slice _,.slice none _ _,.slice none 0 0=>some true
      | .slice _,.slice (some _) _ _,.slice none 0 0=>some false
      |_,_,_=>none)=some r):(Op.equal T u v).run P w = .ok r w:=by
  have h:=h rfl
  unfold Op.equal
  rw [show Op.maxDepth=(Op.maxDepth - 1) + 1 from rfl]
  generalize Op.maxDepth - 1=k
  rw [Op.equalIn]
  simp only [Sem.run_bind,run_underlying hT,Result.andThen_ok]
  split at h <;> first
    |(cases h; simp only [Sem.run_pure]; done)
    |(cases h; simp [Sem.run_pure]; done)
    |(cases h)
theorem eqNil_run {T:TypeId} {x y:PV} {u v:Value} {r:Bool} (h:eqNil P T x y=some r) (hx:R m φ x u) (hy:R m φ y v) (X Y:Operand) (op:BinOp):(eqGuard op T X Y u v).run P w = .ok () w∧(Op.equal T u v).run P w = .ok r w ∧
    (∀ k i,u ≠ .int k i)∧(∀ s,u ≠ .string s)∧(∀ k i,u ≠ .float k i)∧(∀ k i j,u ≠ .complex k i j):=by
  unfold eqNil at h
  split at h
  · rename_i e hT
    split at h
    · rename_i hb
      cases h
      have key:(∃ b o,u = .pointer (some ⟨b,o,none⟩)∧v = .pointer none)∨(∃ b o,v = .pointer (some ⟨b,o,none⟩)∧u = .pointer none):=by
        simp only [Bool.or_eq_true,Bool.and_eq_true] at hb
        have hn:∀ {z:PV} {t:Value},isNil z=true→R m φ z t→t = .pointer none:=fun {z t} h1 h2=>by
          unfold isNil at h1
          split at h1
          · exact h2.sc_eq
          · cases h1
        rcases hb with ⟨h1,h2⟩|⟨h1,h2⟩
        · obtain ⟨b,o,rfl⟩:=ptr_some h1 hx
          exact .inl ⟨b,o,rfl,hn h2 hy⟩
        · obtain ⟨b,o,rfl⟩:=ptr_some h1 hy
          exact .inr ⟨b,o,rfl,hn h2 hx⟩
      rcases key with ⟨b,o,rfl,rfl⟩|⟨b,o,rfl,rfl⟩
      · exact ⟨by cases op <;> simp [eqGuard],equal_once hT (fun _=>rfl),by simp,by simp,by simp,by simp⟩
      · exact ⟨by cases op <;> simp [eqGuard],equal_once hT (fun _=>rfl),by simp,by simp,by simp,by simp⟩
    · cases h
  · rename_i ms hT
    split at h
    · cases h
      cases hx
      cases hy.sc_eq
      exact ⟨by cases op <;> simp [eqGuard],equal_once hT (fun _=>rfl),by simp,by simp,by simp,by simp⟩
    · cases h
      cases hy
      cases hx.sc_eq
      exact ⟨by cases op <;> simp [eqGuard],equal_once hT (fun _=>rfl),by simp,by simp,by simp,by simp⟩
    · cases h
  · rename_i hT
    split at h
    · cases h
      cases hx
      cases hy.sc_eq
      exact ⟨by cases op <;> simp [eqGuard],equal_once hT (fun _=>rfl),by simp,by simp,by simp,by simp⟩
    · cases h
  · rename_i e hT
    have hnl:∀ {v:Value},R m φ (.sl true 0 []) v→v = .slice none 0 0:=fun hv=>by
      cases hv with
      |sl b off g ha hcap hmax hfull hel hr hnil =>
        have h1:=hfull rfl
        have h2:=hnil rfl rfl
        subst h2
        simp only [List.length_nil] at h1
        subst h1
        rfl
    split at h
    · rename_i f sz xs
      cases hnl hy
      split at h
      · split at h
        · rename_i hb
          rw [Bool.and_eq_true] at hb
          cases h
          have hz:=Nat.eq_of_beq_eq_true hb.2
          rw [hb.1,hz] at hx
          cases hnl hx
          exact ⟨by cases op <;> simp [eqGuard],equal_once hT (fun _=>rfl),by simp,by simp,by simp,by simp⟩
        · cases h
      · rename_i hne
        cases h
        cases hx with
        |sl b off g ha hcap hmax hfull hel hr hnil =>
          rw [ha hne]
          exact ⟨by cases op <;> simp [eqGuard],equal_once hT (fun _=>rfl),by simp,by simp,by simp,by simp⟩
    · cases h
  · cases h
theorem does_bin {op:BinOp} {T U:TypeId} {x y:Operand} {u:PV} (h:EnvR m φ ρ a) (hx:aBin P ρ op T x y=some u):Does P w a m φ ⟨dst,.binOp op T x y U,ty,pos,after,gd⟩ u:=by
  unfold aBin at hx
  split at hx
  · rename_i p q hp hq
    have rp:=aval_R h hp
    have rq:=aval_R h hq
    have fin:∀ {v:Value},(do eqGuard op T x y (a.eval x) (a.eval y); binOp op T (a.eval x) (a.eval y):Sem Value).run P w = .ok v w→R m φ u v→Does P w a m φ ⟨dst,.binOp op T x y U,ty,pos,after,gd⟩ u:=fun h1 h2=>by
      refine ⟨_,?_,h2⟩
      simp only [execOp]
      rw [Sem.run_bind,h1]
      simp
    split at hx
    · rename_i v hf
      cases hx
      unfold fastBin at hf
      split at hf
      · have e1:=rp.sc_eq
        have e2:=rq.sc_eq
        obtain ⟨v',h1,h2⟩:=int_bin (P:=P) (m:=m) (φ:=φ) (w:=w) (T:=T) (x:=x) (y:=y) hf
        rw [← e1,← e2] at h1
        exact fin h1 h2
      · cases hf
    · unfold slowBin at hx
      split at hx
      · rename_i v1 v2 h1 h2
        have e1:=toVal_eq h1 rp
        have e2:=toVal_eq h2 rq
        cases hq:qrun P (do eqGuard op T x y v1 v2; binOp op T v1 v2) with
        |none=>simp [hq] at hx
        |some r =>
          rw [hq] at hx
          have hr:=qrun_run w hq
          rw [← e1,← e2] at hr
          exact fin hr (ofVal_R hx)
      · unfold nilBin at hx
        split at hx
        · cases he:eqNil P T p q with
          |none=>simp [he] at hx
          |some r =>
            simp only [he,Option.map_some,Option.some.injEq] at hx
            subst hx
            obtain ⟨h1,h2,h3,h4,h5,h6⟩:=eqNil_run (w:=w) he rp rq x y .eql
            refine fin (v:=.bool r) ?_ (.sc rfl)
            rw [Sem.run_bind,h1]
            simp only [Result.andThen_ok]
            generalize a.eval x=ex at h1 h2 h3 h4 h5 h6
            generalize a.eval y=ey at h1 h2
            unfold binOp
            split <;> first
              |(simp_all; done)
              |(simp only [Sem.run_bind,h2,Result.andThen_ok,Sem.run_pure]; done)
              |(exfalso; simp_all; done)
        · cases he:eqNil P T p q with
          |none=>simp [he] at hx
          |some r =>
            simp only [he,Option.map_some,Option.some.injEq] at hx
            subst hx
            obtain ⟨h1,h2,h3,h4,h5,h6⟩:=eqNil_run (w:=w) he rp rq x y .neq
            refine fin (v:=.bool !r) ?_ (.sc rfl)
            rw [Sem.run_bind,h1]
            simp only [Result.andThen_ok]
            generalize a.eval x=ex at h1 h2 h3 h4 h5 h6
            generalize a.eval y=ey at h1 h2
            unfold binOp
            split <;> first
              |(simp_all; done)
              |(simp only [Sem.run_bind,h2,Result.andThen_ok,Sem.run_pure]; done)
              |(exfalso; simp_all; done)
        · cases hx
  · cases hx
theorem does_un {op:UnOp} {T:TypeId} {x:Operand} {u:PV} (h:EnvR m φ ρ a) (hx:aUn P ρ op x=some u):Does P w a m φ ⟨dst,.unOp op T x,ty,pos,after,gd⟩ u:=by
  unfold aUn at hx
  split at hx
  · rename_i v hv
    have e:=(aval_R h hv).sc_eq
    cases hq:qrun P (Op.unary op v) with
    |none=>simp [hq] at hx
    |some r =>
      rw [hq] at hx
      exact ⟨r,by simp [execOp,e,qrun_run w hq],ofVal_R hx⟩
  · cases hx
theorem does_conv {s d:TypeId} {x:Operand} {u:PV} (h:EnvR m φ ρ a) (hx:aConv P ρ s d x=some u):Does P w a m φ ⟨dst,.convert s d x,ty,pos,after,gd⟩ u:=by
  unfold aConv at hx
  split at hx
  · rename_i v hv
    have e:=(aval_R h hv).sc_eq
    cases hq:qrun P (convert s d v) with
    |none=>simp [hq] at hx
    |some r =>
      rw [hq] at hx
      exact ⟨r,by simp [execOp,e,qrun_run w hq],ofVal_R hx⟩
  · cases hx
theorem does_iface {T:TypeId} {x:Operand} {u:PV} (h:EnvR m φ ρ a) (hx:aIface P ρ T x=some u):Does P w a m φ ⟨dst,.makeInterface T x,ty,pos,after,gd⟩ u:=by
  unfold aIface at hx
  split at hx
  · cases hx
  · rename_i d hne hT
    cases hv:aval ρ x with
    |none=>simp [hv] at hx
    |some v =>
      simp only [hv,Option.map_some,Option.some.injEq] at hx
      subst hx
      refine ⟨_,?_,.ifc (aval_R h hv)⟩
      have:(Instr.makeInterface T (a.eval x)).run P w = .ok (.iface T (a.eval x)) w:=by
        unfold Instr.makeInterface
        simp only [Sem.run_bind,run_underlying hT,Result.andThen_ok]
        first
          |(simp; done)
          |(split
             · rename_i ms; exact absurd rfl (hne ms)
             · simp)
      simp [execOp,this]
  · cases hx
theorem does_fn {f:Fn} {xs ys:Array Operand} {u:PV} (h:EnvR m φ ρ a) (hx:aFn ρ f xs ys=some u):Does P w a m φ ⟨dst,.makeFunc f xs ys,ty,pos,after,gd⟩ u:=by
  unfold aFn at hx
  split at hx
  · rename_i f
    cases h1:mapO (aval ρ) xs.toList with
    |none=>simp [h1] at hx
    |some as =>
      cases h2:mapO (aval ρ) ys.toList with
      |none=>simp [h1,h2] at hx
      |some bs =>
        simp only [h1,h2,Option.some.injEq] at hx
        subst hx
        have r1:=avals_R h h1
        have r2:=avals_R h h2
        refine ⟨_,?_,.fn r1.1 r2.1 r1.2 r2.2⟩
        have e:∀ zs:Array Operand,zs.map a.eval=(zs.toList.map a.eval).toArray:=fun zs=>by apply Array.ext'; simp
        simp [execOp,Instr.makeFunc,e]
  · cases hx
/-! slices -/
theorem run_bound {v:Value} {k:IntKind} {q y:Nat} {code:BoundsCode} (e:v = .int k (q:Int)) (hle:q ≤ y):(Instr.sliceBound v y code).run P w = .ok q w:=by
  subst e
  have h1:(0:Int) ≤ (q:Int)∧(q:Int) ≤ (y:Int):=by omega
  simp [Instr.sliceBound,asIntOf,h1]
theorem optN_R {d q:Nat} {x:Option PV} {v:Option Value} (h:optN d x=some q) (hr:∀ p,x=some p→∃ u,v=some u∧R m φ p u) (hn:x=none→v=none):(v=none∧q=d)∨∃ k,v=some (.int k (q:Int)):=by
  cases x with
  |none=>simp [optN] at h; exact .inl ⟨hn rfl,h.symm⟩
  |some p =>
    obtain ⟨u,rfl,hu⟩:=hr p rfl
    obtain ⟨k,rfl⟩:=nat_int (m:=m) (φ:=φ) (show nat? p=some q from h) hu
    exact .inr ⟨k,rfl⟩
theorem optV_R (h:EnvR m φ ρ a) {x:Option Operand} {u:Option PV} (hx:optV ρ x=some u):(∀ p,u=some p→∃ v,x.map a.eval=some v∧R m φ p v)∧(u=none→x.map a.eval=none):=by
  cases x with
  |none=>simp [optV] at hx; subst hx; simp
  |some x =>
    simp only [optV] at hx
    cases hv:aval ρ x with
    |none=>simp [hv] at hx
    |some v =>
      simp only [hv,Option.map_some,Option.some.injEq] at hx
      subst hx
      exact ⟨fun p hp=>by cases hp; exact ⟨_,rfl,aval_R h hv⟩,fun e=>by cases e⟩
theorem sliceP_run {T e:TypeId} {z:Nat} {full:Bool} {sz:Nat} {xs:List PV} {lo hi mx:Option PV} {u:PV} {vl vh vm:Option Value} {v:Value} (ht:tsl P T=some (e,z)) (hz:z=sz∨xs=[])
    (hu:sliceP full sz xs lo hi mx=some u) (hv:R m φ (.sl full sz xs) v)
    (hl:(∀ p,lo=some p→∃ v,vl=some v∧R m φ p v)∧(lo=none→vl=none)) (hh:(∀ p,hi=some p→∃ v,vh=some v∧R m φ p v)∧(hi=none→vh=none)) (hm:(∀ p,mx=some p→∃ v,vm=some v∧R m φ p v)∧(mx=none→vm=none)) :
    ∃ r,(Instr.sliceAt T v vl vh vm).run P w = .ok r w∧R m φ u r:=by
  cases hv with
  | @sl _ _ _ _ ad cap b off g ha hcap hmax hfull hel hr hnil =>
    unfold sliceP at hu
    split at hu
    · rename_i h l h1 h2
      split at hu
      · rename_i hb
        rw [Bool.and_eq_true] at hb
        have hhn:=Nat.le_of_ble_eq_true hb.1
        have hlh:=Nat.le_of_ble_eq_true hb.2
        have eh:=optN_R (m:=m) (φ:=φ) h1 hh.1 hh.2
        have el:=optN_R (m:=m) (φ:=φ) h2 hl.1 hl.2
        -- the bounds
        have key:∀ (M:Nat) (f':Bool),h ≤ M→M ≤ cap→(f'=true→M=h)→(f'=true→sz=0→ad=none)→(Instr.sliceBounds true xs.length cap vl vh vm).run P w = .ok (l,h,M) w →
            ∃ r,(Instr.sliceAt T (.slice ad xs.length cap) vl vh vm).run P w = .ok r w∧R m φ (.sl f' sz ((xs.take h).drop l)) r:=fun M f' hM hMc hf' hnf hbnd=>by
          have hlen:((xs.take h).drop l).length=h - l:=by simp; omega
          have hat:∀ i x,((xs.take h).drop l)[i]? = some x→xs[l + i]? = some x:=fun i x hx=>by
            rw [List.getElem?_drop,List.getElem?_take] at hx
            split at hx
            · exact hx
            · cases hx
          refine ⟨.slice (if M=l then ad else ad.map (·.add (l * z))) (h - l) (M - l),?_,?_⟩
          · unfold tsl at ht
            split at ht
            · rename_i e' he
              cases hi:P.info? e' with
              |none=>simp [hi] at ht
              |some ii =>
                simp [hi] at ht
                obtain ⟨rfl,rfl⟩:=ht
                have hsz:(sizeOf e').run P w = .ok ii.size w:=by simp [sizeOf,typeInfo,hi]
                unfold Instr.sliceAt
                simp only [Sem.run_bind,run_underlying he,Result.andThen_ok]
                unfold Instr.slice
                simp only [Sem.run_bind,run_underlying he,Result.andThen_ok,hbnd,hsz,Sem.run_pure]
            · cases ht
          · rw [← hlen]
            refine .sl b (off + l * sz) (fun i=>g (l + i)) (fun hne=>?_) (by rw [hlen]; omega) (by omega) (fun e=>by rw [hlen,hf' e]) (fun i x hx=>?_) (fun i x j c v hx=>?_) (fun e1 e2=>by rw [hnf e1 e2]; simp)
            · have hpos:0 < h - l:=by
                rw [← hlen]
                exact List.length_pos_iff.2 hne
              have hxs:xs ≠ []:=by
                intro e
                rw [e] at hhn
                simp at hhn
                omega
              rw [if_neg (by omega),ha hxs]
              simp only [Option.map_some,Addr.add_lit]
              rcases hz with rfl|hz
              · rfl
              · exact absurd hz hxs
            · have:=hel (l + i) x (hat i x hx)
              refine ⟨this.1,this.2.1,?_,this.2.2.2⟩
              have h3:=this.2.2.1
              rw [Nat.add_mul] at h3
              rwa [Nat.add_assoc]
            · exact hr (l + i) x j c v (hat i x hx)
        have bl:∀ code,(match vl with
            |some v=>Instr.sliceBound v h code
            |none=>pure 0:Sem Nat).run P w = .ok l w:=fun code=>by
          rcases el with ⟨rfl,rfl⟩|⟨k,rfl⟩
          · simp
          · exact run_bound rfl hlh
        split at hu
        · cases hu
          have e0:vm=none:=hm.2 rfl
          subst e0
          refine key cap _ (by omega) (Nat.le_refl _) (fun e=>by
            rw [Bool.and_eq_true] at e
            rw [hfull e.1]
            exact (Nat.eq_of_beq_eq_true e.2).symm) (fun e=>hnil (by
              rw [Bool.and_eq_true] at e
              exact e.1)) ?_
          unfold Instr.sliceBounds
          simp only [Sem.run_bind,Sem.run_pure,Result.andThen_ok,Option.isSome_none]
          rcases eh with ⟨rfl,rfl⟩|⟨k,rfl⟩
          · simp only [Sem.run_pure,Result.andThen_ok]
            have:=bl .sliceB
            cases vl <;> simp_all
          · have hb2:=run_bound (P:=P) (w:=w) (v:=.int k (h:Int)) (y:=cap) (code:=.sliceAcap) rfl (by omega)
            have:=bl .sliceB
            clear key
            cases vl <;> simp_all
        · rename_i mp
          split at hu
          · rename_i q hp' hq
            split at hu
            · rename_i hbeq
              cases hu
              rw [Bool.and_eq_true] at hbeq
              have hpos:=Nat.le_of_ble_eq_true hbeq.2
              obtain rfl:=Nat.eq_of_beq_eq_true hbeq.1
              obtain ⟨um,rfl,hum⟩:=hm.1 mp rfl
              obtain ⟨km,rfl⟩:=nat_int hq hum
              obtain ⟨uh,rfl,huh⟩:=hh.1 hp' rfl
              obtain ⟨kh,rfl⟩:∃ kh,uh = .int kh (q:Int):=by
                rcases eh with ⟨e,_⟩|⟨k,e⟩
                · cases e
                · exact ⟨k,Option.some.inj e⟩
              refine key q true (Nat.le_refl _) (by omega) (fun _=>rfl) (fun _ e=>by omega) ?_
              unfold Instr.sliceBounds
              have hb2:=run_bound (P:=P) (w:=w) (v:=.int km (q:Int)) (y:=cap) (code:=.slice3Acap) rfl (by omega)
              have hb3:=run_bound (P:=P) (w:=w) (v:=.int kh (q:Int)) (y:=q) (code:=.slice3B) rfl (Nat.le_refl q)
              have:=bl .slice3C
              clear key
              cases vl <;> simp_all
            · cases hu
          · cases hu
      · cases hu
    · cases hu
theorem szOk_R {T:TypeId} {sz:Nat} {xs:List PV} (h:szOk P T sz xs=true):∃ e z,tsl P T=some (e,z)∧(z=sz∨xs=[]):=by
  unfold szOk at h
  split at h
  · rename_i e z ht
    refine ⟨e,z,ht,?_⟩
    rw [Bool.or_eq_true] at h
    rcases h with h|h
    · exact .inl (Nat.eq_of_beq_eq_true h)
    · exact .inr (by simpa using h)
  · cases h
theorem does_slice {T:TypeId} {x:Operand} {lo hi mx:Option Operand} {u:PV} (h:EnvR m φ ρ a) (hx:aSlice P ρ T x lo hi mx=some u):Does P w a m φ ⟨dst,.slice T x lo hi mx,ty,pos,after,gd⟩ u:=by
  unfold aSlice at hx
  split at hx
  · rename_i pl ph pm hl hh hm
    have rl:=optV_R h hl
    have rh:=optV_R h hh
    have rm:=optV_R h hm
    have fin:(∃ r,(Instr.sliceAt T (a.eval x) (lo.map a.eval) (hi.map a.eval) (mx.map a.eval)).run P w = .ok r w∧R m φ u r)→Does P w a m φ ⟨dst,.slice T x lo hi mx,ty,pos,after,gd⟩ u:=fun ⟨r,h1,h2⟩=>⟨r,by simp [execOp,h1],h2⟩
    split at hx
    · rename_i v hv
      have e:=(aval_R h hv).sc_eq
      unfold strSlice at hx
      split at hx
      · have optS_eq:∀ {p:Option PV} {q:Option Value} {r:Option Value},optS p=some q→((∀ t,p=some t→∃ v,r=some v∧R m φ t v)∧(p=none→r=none))→r=q:=fun {p q r} h1 h2=>by
          cases p with
          |none=>simp [optS] at h1; rw [← h1]; exact h2.2 rfl
          |some t =>
            simp only [optS] at h1
            cases hs:scOf t with
            |none=>simp [hs] at h1
            |some s =>
              simp only [hs,Option.map_some,Option.some.injEq] at h1
              obtain ⟨v,h3,h4⟩:=h2.1 t rfl
              rw [h3,scOf_eq hs h4,h1]
        split at hx
        · rename_i l' h' e1 e2
          cases hq:qrun P (Instr.sliceAt T v l' h' none) with
          |none=>simp [hq] at hx
          |some r =>
            rw [hq] at hx
            refine fin ⟨r,?_,ofVal_R hx⟩
            rw [e,optS_eq e1 rl,optS_eq e2 rh,rm.2 rfl]
            exact qrun_run w hq
        · cases hx
      · cases hx
    · rename_i full sz xs hv
      split at hx
      · rename_i hs
        obtain ⟨e,z,ht,hz⟩:=szOk_R hs
        exact fin (sliceP_run ht hz hx (aval_R h hv) rl rh rm)
      · cases hx
    · cases hx
  · cases hx
end
end Go.Am
namespace Go.Am
open Go Go.Hb
open Go.Gw (tk tf tz tsl tar tpl isAggD)
section
variable {P:Program} {m:Mem} {φ:Ph} {ρ:AEnv} {a:Act} {w:World} {dst:Option Nat} {ty:TypeId} {pos:String} {after:Array Edge} {gd:Option (Nat × Bool)}
theorem all_drop {α:Type} {p:α→Bool} {l:List α} (h:l.all p=true) (k:Nat):(l.drop k).all p=true:=List.all_eq_true.2 fun x hx=>List.all_eq_true.1 h x (List.mem_of_mem_drop hx)
theorem all_take {α:Type} {p:α→Bool} {l:List α} (h:l.all p=true) (k:Nat):(l.take k).all p=true:=List.all_eq_true.2 fun x hx=>List.all_eq_true.1 h x (List.mem_of_mem_take hx)
theorem RdN.drop {m:Mem} {b off:Nat} {vs:List Value} (h:RdN m b off vs) (k:Nat):RdN m b (off + k) (vs.drop k):=fun j v hv=>by
  rw [List.getElem?_drop] at hv
  have:=h _ v hv
  rwa [← Nat.add_assoc] at this
theorem shift_R {p q:PV} {o:Nat} {v:Value} (h:shiftP o p=some q) (hr:R m φ p v):∃ b off,v = .pointer (some ⟨b,off,none⟩)∧R m φ q (.pointer (some ⟨b,off + o,none⟩)):=by
  unfold shiftP at h
  split at h
  · cases h; cases hr with
    |bp hφ=>exact ⟨_,_,rfl,.bp hφ⟩
  · cases h; cases hr with
    |rp hφ hle hv hp =>
      obtain ⟨b,off,rfl⟩:=hp
      refine ⟨b,off,rfl,.rp hφ hle (fun e=>?_) ⟨_,_,rfl⟩⟩
      obtain ⟨b',cap,h1,h2⟩:=hv e
      cases h2
      exact ⟨b,cap,h1,by rw [Nat.add_assoc]⟩
  · cases h; cases hr with
    |cp hl hrd hc hi =>
      have h1:=(Rl.drop ⟨hl,hi⟩ o)
      exact ⟨_,_,rfl,.cp h1.1 (hrd.drop o) (all_drop hc o) h1.2⟩
  · cases h; cases hr with
    |ci hl hrd hc hi =>
      have h1:=(Rl.drop ⟨hl,hi⟩ o)
      exact ⟨_,_,rfl,.ci h1.1 (hrd.drop o) (all_drop hc o) h1.2⟩
  · cases h
theorem does_fieldAddr {T:TypeId} {x:Operand} {f:Nat} {u:PV} (h:EnvR m φ ρ a) (hx:aFieldAddr P ρ T x f=some u):Does P w a m φ ⟨dst,.fieldAddr T x f,ty,pos,after,gd⟩ u:=by
  unfold aFieldAddr at hx
  split at hx
  · rename_i o p ht hp
    obtain ⟨b,off,e,hr⟩:=shift_R hx (aval_R h hp)
    refine ⟨_,?_,hr⟩
    unfold tf at ht
    split at ht
    · rename_i fs hfs
      split at ht
      · rename_i fd hfd
        split at ht
        · rename_i i hi
          split at ht
          · cases ht
          · rename_i hne
            cases ht
            simp [execOp,Instr.fieldAt,e,run_underlying hfs,hfd,Instr.sureAddr,fieldPlace,sizeOf,typeInfo,hi,hne,Addr.add_lit]
        · cases ht
      · cases ht
    · cases ht
  · cases hx
theorem loadP_R {ag:Bool} {cs:List PV} {vs:List Value} {off k:Nat} {u:PV} (h:loadP ag cs off k=some u) (hr:Rl m φ cs vs) (hc:cs.all cell=true):∃ v,Gw.loadV ag vs off k=some v∧R m φ u v:=by
  unfold loadP at h
  unfold Gw.loadV
  cases ag with
  |true =>
    simp only at h ⊢
    split at h
    · rename_i hle
      cases h
      rw [hr.1] at hle
      rw [hle]
      have h1:=(hr.drop off).take k
      exact ⟨_,rfl,.ag h1.1 (all_take (all_drop hc off) k) h1.2⟩
    · cases h
  |false =>
    simp only at h ⊢
    exact hr.get h
theorem run_part {T:TypeId} {ag:Bool} {k off:Nat} {vs:List Value} {v:Value} (ht:tk P T=some (ag,k)) (hv:Gw.loadV ag vs off k=some v):(part T vs.toArray off).run P w = .ok v w:=by
  unfold tk at ht
  split at ht
  · rename_i dd ii hdd hii
    simp only [Option.some.injEq,Prod.mk.injEq] at ht
    obtain ⟨h1,h2⟩:=ht
    unfold part
    cases ag with
    |true =>
      have hagg:(isAgg T).run P w = .ok true w:=by
        unfold isAgg
        cases dd <;> simp [isAggD] at h1 <;> simp [run_underlying hdd]
      simp only [Gw.loadV] at hv
      split at hv
      · cases hv
        simp only [Sem.run_bind,hagg,Result.andThen_ok,if_true,sizeOf,typeInfo,program,hii,h2,Sem.run_pure,Sem.run]
        have e:vs.toArray.extract off (off + k)=(Gw.cut vs off k).toArray:=by
          apply Array.ext'
          simp [Gw.cut,List.extract_eq_take_drop]
        rw [e]
      · cases hv
    |false =>
      have hagg:(isAgg T).run P w = .ok false w:=by
        unfold isAgg
        cases dd <;> simp [isAggD] at h1 <;> simp [run_underlying hdd]
      simp only [Gw.loadV] at hv
      simp [hagg,hv]
  · cases ht
theorem does_field {T:TypeId} {x:Operand} {f:Nat} {u:PV} (h:EnvR m φ ρ a) (hx:aField P ρ T x f=some u):Does P w a m φ ⟨dst,.field T x f,ty,pos,after,gd⟩ u:=by
  unfold aField at hx
  split at hx
  · rename_i ag off k cs hf hv
    have hr:=aval_R h hv
    generalize he:a.eval x=ev at hr
    cases hr with
    | @ag _ _ vs hl hc hi =>
      obtain ⟨v,h1,h2⟩:=loadP_R hx ⟨hl,hi⟩ hc
      refine ⟨v,?_,h2⟩
      unfold fieldAt at hf
      split at hf
      · rename_i fs hfs
        split at hf
        · rename_i fd hfd
          split at hf
          · rename_i ag' k' hk
            cases hf
            have h3:(part fd.type vs.toArray fd.offset).run P w = .ok v w:=run_part hk h1
            have h4:(Instr.field T (.agg vs.toArray) f).run P w = .ok v w:=by
              unfold Instr.field
              simp [run_underlying hfs,hfd,asAgg,h3]
            simp [execOp,he,h4]
          · cases hf
        · cases hf
      · cases hf
  · cases hx
theorem does_indexAddr {T:TypeId} {x i:Operand} {u:PV} (h:EnvR m φ ρ a) (hx:aIndexAddr P ρ T x i=some u):Does P w a m φ ⟨dst,.indexAddr T x i,ty,pos,after,gd⟩ u:=by
  unfold aIndexAddr at hx
  split at hx
  · rename_i p pi hp hi
    split at hx
    · rename_i q hq
      obtain ⟨k,ek⟩:=nat_int hq (aval_R h hi)
      have hr:=aval_R h hp
      unfold idxAddr at hx
      split at hx
      · rename_i full sz xs
        split at hx
        · rename_i el hel
          split at hx
          · rename_i hs
            cases hx
            generalize he:a.eval x=ev at hr
            cases hr with
            | @sl _ _ _ _ ad cap b off g ha hcap hmax hfull hell hrr hnil =>
              obtain ⟨e,z,ht,hz⟩:=szOk_R hs
              have hlt:=(List.getElem?_eq_some_iff.1 hel).1
              have hne:xs ≠ []:=fun e=>by rw [e] at hlt; simp at hlt
              obtain rfl:z=sz:=hz.resolve_right hne
              have ha':=ha hne
              obtain ⟨h1,h2,h3,h4⟩:=hell q el hel
              refine ⟨.pointer (some ⟨b,off + q * z,none⟩),?_,.cp (by rw [h1,h2]) h3 h4 (fun j c v hc hv=>hrr q el j c v hel hc hv)⟩
              unfold tsl at ht
              split at ht
              · rename_i e' hee
                cases hii:P.info? e' with
                |none=>simp [hii] at ht
                |some ii =>
                  simp [hii] at ht
                  obtain ⟨rfl,rfl⟩:=ht
                  simp [execOp,Instr.indexAt,he,ek,asIntOf,run_underlying hee,hlt,sizeOf,typeInfo,hii,Addr.add_lit,ha']
              · cases ht
          · cases hx
        · cases hx
      · cases hx
      · split at hx
        · rename_i n e z ht
          split at hx
          · rename_i hlt
            have hlt':q < n:=by simpa [Nat.blt_eq] using hlt
            obtain ⟨b,off,e1,hr'⟩:=shift_R hx hr
            refine ⟨_,?_,hr'⟩
            unfold tar at ht
            split at ht
            · rename_i l' e' hee
              cases hii:P.info? e' with
              |none=>simp [hii] at ht
              |some ii =>
                simp [hii] at ht
                obtain ⟨rfl,rfl,rfl⟩:=ht
                simp [execOp,Instr.indexAt,e1,ek,asIntOf,run_underlying hee,hlt',sizeOf,typeInfo,hii,Addr.add_lit,Instr.sureAddr]
            · cases ht
          · cases hx
        · cases hx
    · cases hx
  · cases hx
theorem does_index {T:TypeId} {x i:Operand} {u:PV} (h:EnvR m φ ρ a) (hx:aIndex P ρ T x i=some u):Does P w a m φ ⟨dst,.index T x i,ty,pos,after,gd⟩ u:=by
  unfold aIndex at hx
  split at hx
  · rename_i v j hv hj
    have e1:=(aval_R h hv).sc_eq
    have e2:=(aval_R h hj).sc_eq
    cases hq:qrun P (Instr.index T v j) with
    |none=>simp [hq] at hx
    |some r =>
      rw [hq] at hx
      exact ⟨r,by simp [execOp,e1,e2,qrun_run w hq],ofVal_R hx⟩
  · rename_i cs pi hv hi
    split at hx
    · rename_i n e z q ht hq
      split at hx
      · rename_i ag k hk hlt
        obtain ⟨ki,ek⟩:=nat_int hq (aval_R h hi)
        have hlt':q < n:=by simpa [Nat.blt_eq] using hlt
        have hr:=aval_R h hv
        generalize he:a.eval x=ev at hr
        cases hr with
        | @ag _ _ vs hl hc hi' =>
          unfold tar at ht
          split at ht
          · rename_i l' e' hee
            cases hii:P.info? e' with
            |none=>simp [hii] at ht
            |some ii =>
              simp [hii] at ht
              obtain ⟨rfl,rfl,rfl⟩:=ht
              obtain rfl:k=ii.size:=by
                unfold tk at hk
                rw [hii] at hk
                split at hk
                · rename_i dd ii' _ hd'
                  cases hd'
                  simp only [Option.some.injEq,Prod.mk.injEq] at hk
                  exact hk.2.symm
                · cases hk
              obtain ⟨v,h1,h2⟩:=loadP_R hx ⟨hl,hi'⟩ hc
              have h3:=run_part (P:=P) (w:=w) hk h1
              refine ⟨v,?_,h2⟩
              simp [execOp,Instr.index,he,ek,asIntOf,run_underlying hee,hlt',sizeOf,typeInfo,hii,h3]
          · cases ht
      · cases hx
    · cases hx
  · cases hx
theorem does_assert {T U:TypeId} {x:Operand} {ok:Bool} {u:PV} (h:EnvR m φ ρ a) (hx:aAssert P ρ x T ok=some u):Does P w a m φ ⟨dst,.typeAssert x U T ok,ty,pos,after,gd⟩ u:=by
  unfold aAssert at hx
  split at hx
  · cases hx
  · rename_i d hne hT
    split at hx
    · rename_i t p hp
      split at hx
      · rename_i hb
        obtain rfl:=Nat.eq_of_beq_eq_true hb
        have hr:=aval_R h hp
        generalize he:a.eval x=ev at hr
        cases hr with
        | @ifc _ _ _ v hi =>
          have key:∀ r,(if ok then (.tuple #[v,.bool true]:Value) else v)=r→(Instr.typeAssert (.iface t v) U t ok).run P w = .ok r w:=fun r hr'=>by
            unfold Instr.typeAssert
            simp only [Sem.run_bind,run_underlying hT,Result.andThen_ok]
            cases d <;> first
              |exact absurd rfl (hne _)
              |(simp [hr']; done)
          split at hx
          · cases hx
            refine ⟨.tuple #[v,.bool true],by simp [execOp,he,key (.tuple #[v,.bool true]) rfl],?_⟩
            have hl:Rl m φ [p,.sc (.bool true)] [v,.bool true]:=.cons hi (.cons (.sc rfl) .nil)
            simpa using R.tu hl.1 hl.2
          · cases hx
            exact ⟨v,by simp [execOp,he,key v rfl],hi⟩
      · cases hx
    · cases hx
  · cases hx
/-! composite values -/
theorem updP_R {cs ds:List PV} {us vs:List Value} {off:Nat} (h:Rl m φ cs us) (k:Rl m φ ds vs):Rl m φ (updP cs off ds) (Gw.upd us off vs):=by
  unfold updP Gw.upd
  rw [k.1]
  exact (h.take off).append (k.append (h.drop _))
theorem updP_all {cs ds:List PV} {off:Nat} (h:cs.all cell=true) (k:ds.all cell=true):(updP cs off ds).all cell=true:=by
  unfold updP
  rw [List.all_append,List.all_append,all_take h,k,all_drop h]
  rfl
theorem cells_R {x:PV} {v:Value} (h:R m φ x v):Rl m φ x.cells v.cells.toList:=by
  cases h with
  |yl hp=>simp only [PV.cells,Value.cells]; exact .cons (.yl hp) .nil
  |ag hl hc hi=>simp only [PV.cells,Value.cells]; exact ⟨hl,hi⟩
  | @sc _ v h =>
    have:v.cells.toList=[v]:=by cases v <;> simp [isSc] at h <;> simp [Value.cells]
    rw [this]
    exact .cons (.sc h) .nil
  |tu hl hi=>simp only [PV.cells,Value.cells]; exact .cons (.tu hl hi) .nil
  |sl b off g ha hcap hmax hfull hel hr hnil=>simp only [PV.cells,Value.cells]; exact .cons (.sl b off g ha hcap hmax hfull hel hr hnil) .nil
  |ms hφ hle hv hs =>
    obtain ⟨_,_,_,rfl⟩:=hs
    simp only [PV.cells,Value.cells]
    exact .cons (.ms hφ hle hv ⟨_,_,_,rfl⟩) .nil
  |bp hφ=>simp only [PV.cells,Value.cells]; exact .cons (.bp hφ) .nil
  |rp hφ hle hv hp =>
    obtain ⟨_,_,rfl⟩:=hp
    simp only [PV.cells,Value.cells]
    exact .cons (.rp hφ hle hv ⟨_,_,rfl⟩) .nil
  |cp hl hrd hc hi=>simp only [PV.cells,Value.cells]; exact .cons (.cp hl hrd hc hi) .nil
  |ci hl hrd hc hi=>simp only [PV.cells,Value.cells]; exact .cons (.ci hl hrd hc hi) .nil
  |fn hl hl' hi hi'=>simp only [PV.cells,Value.cells]; exact .cons (.fn hl hl' hi hi') .nil
  |ifc hi=>simp only [PV.cells,Value.cells]; exact .cons (.ifc hi) .nil
theorem fillP_R {place:Nat→Option (Nat × Nat)}:∀ {pv:List (Nat × PV)} {vv:List (Nat × Value)} {cs ds:List PV} {us:List Value},fillP place cs pv=some ds→Rl m φ cs us→cs.all cell=true →
    (pv.length=vv.length∧∀ (i:Nat) p v,pv[i]? = some p→vv[i]? = some v→p.1=v.1∧R m φ p.2 v.2)→∃ ws,Gw.fillL place us vv=some ws∧Rl m φ ds ws∧ds.all cell=true
  |[],vv,cs,ds,us,h,hr,hc,hp=>by
    cases vv with
    |nil=>simp [fillP] at h; subst h; exact ⟨us,by simp [Gw.fillL],hr,hc⟩
    |cons _ _=>exact absurd hp.1 (by simp)
  |(i,x) :: pv,vv,cs,ds,us,h,hr,hc,hp=>by
    cases vv with
    |nil=>exact absurd hp.1 (by simp)
    |cons v0 vv =>
      obtain ⟨i',v⟩:=v0
      obtain ⟨rfl,hxv⟩:=hp.2 0 (i,x) (i',v) rfl rfl
      simp only at hxv
      have hp':pv.length=vv.length∧∀ (j:Nat) p v,pv[j]? = some p→vv[j]? = some v→p.1=v.1∧R m φ p.2 v.2:=⟨by have:=hp.1; simpa using this,fun j p v h1 h2=>hp.2 (j + 1) p v (by simpa using h1) (by simpa using h2)⟩
      have hcl:=cells_R hxv
      simp only [fillP] at h
      simp only [Gw.fillL]
      split at h
      · rename_i off size hpl
        split at h
        · rename_i hb
          simp only [Bool.and_eq_true] at hb
          rw [hcl.1] at hb
          rw [hr.1] at hb
          simp only [hpl,hb.1.1,hb.1.2]
          exact fillP_R h (updP_R hr hcl) (updP_all hc hb.2) hp'
        · cases h
      · cases h
theorem avalP_R (h:EnvR m φ ρ a):∀ {xs:List (Nat × Operand)} {us:List (Nat × PV)},avalP ρ xs=some us→us.length=(xs.map fun p=>(p.1,a.eval p.2)).length∧∀ (i:Nat) p v,us[i]? = some p→(xs.map fun p=>(p.1,a.eval p.2))[i]? = some v→p.1=v.1∧R m φ p.2 v.2
  |[],us,hx=>by simp [avalP] at hx; subst hx; simp
  |(j,x) :: xs,us,hx=>by
    simp only [avalP] at hx
    cases h1:aval ρ x with
    |none=>simp [h1] at hx
    |some u =>
      cases h2:avalP ρ xs with
      |none=>simp [h1,h2] at hx
      |some l =>
        simp only [h1,h2,Option.some.injEq] at hx
        subst hx
        obtain ⟨h3,h4⟩:=avalP_R h h2
        refine ⟨by simpa using h3,fun i p v hp hv=>?_⟩
        cases i with
        |zero=>simp at hp hv; subst hp; subst hv; exact ⟨rfl,aval_R h h1⟩
        |succ i=>exact h4 i p v (by simpa using hp) (by simpa using hv)
theorem does_build {T:TypeId} {parts:Array (Nat × Operand)} {u:PV} (h:EnvR m φ ρ a) (hx:aBuild P ρ T parts=some u):Does P w a m φ ⟨dst,.build T parts,ty,pos,after,gd⟩ u:=by
  unfold aBuild at hx
  split at hx
  · rename_i pv zs hpv hz
    split at hx
    · rename_i pl ht
      cases hf:fillP (fun i=>pl[i]?) zs pv with
      |none=>simp [hf] at hx
      |some cs =>
        simp only [hf,Option.map_some,Option.some.injEq] at hx
        subst hx
        unfold zeroP at hz
        split at hz
        · rename_i z hzz
          obtain ⟨hr,hc⟩:=ofCells_R (m:=m) (φ:=φ) hz
          obtain ⟨ws,h1,h2,h3⟩:=fillP_R hf hr hc (avalP_R h hpv)
          refine ⟨.agg ws.toArray,?_,.ag h2.1 h3 h2.2⟩
          have hfill:=Gw.fill_of_fillL _ _ _ _ h1
          unfold tpl at ht
          split at ht
          · rename_i fs hfs
            cases hi:P.info? T with
            |none=>simp [tz,hi] at hzz
            |some ii =>
              simp [tz,hi] at hzz
              have hm:=Gw.mapM_places ht w
              have hm2:(fs.mapM (m:=Sem) fun f=>do pure (f.offset,← sizeOf f.type)).run P w = .ok pl.toArray w:=by
                rw [Array.mapM_eq_mapM_toList,Sem.run_map,hm]
                rfl
              simp only [Array.toArray_toList] at hfill
              have hz2:(zeroValue T).run P w = .ok z w:=by simp [zeroValue,typeInfo,hi,hzz]
              have hpm:(parts.map fun x=>(x.1,a.eval x.2)).toList=parts.toList.map fun p=>(p.1,a.eval p.2):=by simp
              simp only [execOp,Instr.build,Sem.run_bind,hz2,Result.andThen_ok,run_underlying hfs,hm2,Sem.run_pure,List.getElem?_toArray,hpm,hfill]
          · cases ht
        · cases hz
    · cases hx
  · cases hx
theorem run_loadVar {T:TypeId} {b off k:Nat} {ag:Bool} {cs:List Value} {v:Value} (ht:tk P T=some (ag,k)) (hc:∀ (j:Nat) u,cs[j]? = some u→w.cell? ⟨b,off + j,none⟩=some u) (hv:Gw.loadV ag cs 0 k=some v) :
    (loadVar T ⟨b,off,none⟩).run P w = .ok v w:=by
  unfold tk at ht
  split at ht
  · rename_i dd ii hdd hii
    simp only [Option.some.injEq,Prod.mk.injEq] at ht
    obtain ⟨h1,h2⟩:=ht
    cases ag with
    |true =>
      simp only [Gw.loadV] at hv
      split at hv
      · rename_i hle
        simp only [Option.some.injEq] at hv
        subst hv
        have hle':0 + k ≤ cs.length:=Nat.le_of_ble_eq_true hle
        have hl:(loadCells ⟨b,off,none⟩ k).run P w = .ok (Gw.cut cs 0 k).toArray w:=by
          have:=run_loadCells_list (P:=P) w ⟨b,off,none⟩ (Gw.cut cs 0 k) (fun j u hu=>by
            rw [Addr.add_lit]
            have:=Gw.cut_get hu
            rw [Nat.zero_add] at this
            exact hc _ _ this)
          rwa [Gw.cut_length hle'] at this
        have hagg:(isAgg T).run P w = .ok true w:=by
          unfold isAgg
          cases dd <;> simp [isAggD] at h1 <;> simp [run_underlying hdd]
        simp [loadVar,hagg,sizeOf,typeInfo,hii,h2,hl]
      · cases hv
    |false =>
      simp only [Gw.loadV] at hv
      have hagg:(isAgg T).run P w = .ok false w:=by
        unfold isAgg
        cases dd <;> simp [isAggD] at h1 <;> simp [run_underlying hdd]
      have:=hc 0 v hv
      simp only [Nat.add_zero] at this
      simp [loadVar,hagg,load,Sem.run,this]
  · cases ht
theorem does_loadC {T:TypeId} {x:Operand} {u:PV} (hm:MemW m w) (h:EnvR m φ ρ a) (hx:aLoadC P ρ T x=some u):Does P w a m φ ⟨dst,.load T x,ty,pos,after,gd⟩ u:=by
  unfold aLoadC at hx
  split at hx
  · rename_i ag k cs ht hp
    have hr:=aval_R h hp
    generalize he:a.eval x=ev at hr
    cases hr with
    | @cp _ _ b off vs hl hrd hc hi =>
      obtain ⟨v,h1,h2⟩:=loadP_R hx ⟨hl,hi⟩ hc
      have:=run_loadVar (P:=P) (w:=w) (b:=b) (off:=off) ht (fun j u hu=>hm _ _ _ (hrd j u hu)) h1
      exact ⟨v,by simp [execOp,Instr.loadAt,he,Instr.sureAddr,this],h2.any⟩
  · rename_i ag k cs ht hp
    have hr:=aval_R h hp
    generalize he:a.eval x=ev at hr
    cases hr with
    | @ci _ _ b off vs hl hrd hc hi =>
      obtain ⟨v,h1,h2⟩:=loadP_R hx ⟨hl,hi⟩ hc
      have:=run_loadVar (P:=P) (w:=w) (b:=b) (off:=off) ht (fun j u hu=>hm _ _ _ (hrd j u hu)) h1
      exact ⟨v,by simp [execOp,Instr.loadAt,he,Instr.sureAddr,this],h2⟩
  · cases hx
theorem does_builtin {b:Builtin} {xs:Array Operand} {ts:Array TypeId} {u:PV} (h:EnvR m φ ρ a) (hx:aBuiltin P ρ b xs.toList ts.toList=some u):Does P w a m φ ⟨dst,.call ⟨.builtin b,xs,ts⟩,ty,pos,after,gd⟩ u:=by
  unfold aBuiltin at hx
  split at hx
  · rename_i x T hxs hts
    obtain rfl:xs = #[x]:=by apply Array.ext'; simpa using hxs
    obtain rfl:ts = #[T]:=by apply Array.ext'; simpa using hts
    cases hv:aval ρ x with
    |none=>simp [hv] at hx
    |some v =>
      simp only [hv,Option.bind_some] at hx
      have hr:=aval_R h hv
      unfold lenP at hx
      split at hx
      · rename_i full sz ys
        split at hx
        · rename_i e ht
          cases hx
          generalize he:a.eval x=ev at hr
          cases hr with
          | @sl _ _ _ _ ad cap b off g ha hcap hmax hfull hel hrr hnil =>
            refine ⟨_,?_,.sc rfl⟩
            unfold tsl at ht
            split at ht
            · rename_i e' hee
              simp [execOp,resolve,invoke,builtin,Builtin.len_,he,run_underlying hee,goInt]
            · cases ht
        · cases hx
      · rename_i v
        have e:=hr.sc_eq
        cases hq:qrun P (Builtin.len_ #[T] 0 #[v]) with
        |none=>simp [hq] at hx
        |some r =>
          rw [hq] at hx
          have h1:(Builtin.len_ #[T] ty #[v]).run P w = .ok r w:=qrun_run w hq
          exact ⟨r,by simp [execOp,resolve,invoke,builtin,e,h1],ofVal_R hx⟩
      · cases hx
  · rename_i x y T U hxs hts
    obtain rfl:xs = #[x,y]:=by apply Array.ext'; simpa using hxs
    obtain rfl:ts = #[T,U]:=by apply Array.ext'; simpa using hts
    split at hx
    · rename_i v1 v2 h1 h2
      have e1:=(aval_R h h1).sc_eq
      have e2:=(aval_R h h2).sc_eq
      cases hq:qrun P (Builtin.max_ #[T,U] 0 #[v1,v2]) with
      |none=>simp [hq] at hx
      |some r =>
        rw [hq] at hx
        have h1:(Builtin.max_ #[T,U] ty #[v1,v2]).run P w = .ok r w:=qrun_run w hq
        exact ⟨r,by simp [execOp,resolve,invoke,builtin,e1,e2,h1],ofVal_R hx⟩
    · cases hx
  · rename_i x y T U hxs hts
    obtain rfl:xs = #[x,y]:=by apply Array.ext'; simpa using hxs
    obtain rfl:ts = #[T,U]:=by apply Array.ext'; simpa using hts
    split at hx
    · rename_i v1 v2 h1 h2
      have e1:=(aval_R h h1).sc_eq
      have e2:=(aval_R h h2).sc_eq
      cases hq:qrun P (Builtin.min_ #[T,U] 0 #[v1,v2]) with
      |none=>simp [hq] at hx
      |some r =>
        rw [hq] at hx
        have h1:(Builtin.min_ #[T,U] ty #[v1,v2]).run P w = .ok r w:=qrun_run w hq
        exact ⟨r,by simp [execOp,resolve,invoke,builtin,e1,e2,h1],ofVal_R hx⟩
    · cases hx
  · cases hx
/-- all of them -/
theorem does_P {op:Op} {u:PV} (hm:MemW m w) (h:EnvR m φ ρ a) (hx:aP P ρ op=some u):Does P w a m φ ⟨dst,op,ty,pos,after,gd⟩ u:=by
  unfold aP at hx
  split at hx
  · exact does_move h hx
  · exact does_assign h hx
  · exact does_pick h hx
  · exact does_nil h hx
  · exact does_extract h hx
  · exact does_bin h hx
  · exact does_un h hx
  · exact does_conv h hx
  · exact does_iface h hx
  · exact does_fn h hx
  · exact does_slice h hx
  · exact does_fieldAddr h hx
  · exact does_field h hx
  · exact does_indexAddr h hx
  · exact does_index h hx
  · exact does_assert h hx
  · exact does_build h hx
  · exact does_loadC hm h hx
  · exact does_builtin h hx
  · cases hx
end
end Go.Am
namespace Go.Am
open Go Go.Hb
open Go.Gw (tk tf tz tsl tar tpl isAggD)
/-- the cells of a row's elements -/
def RowR (m:Mem) (φ:Ph) (sz:Nat) (xs:List PV) (vss:List (List Value)):Prop :=
  xs.length=vss.length∧∀ (i:Nat) x vs,xs[i]? = some x→vss[i]? = some vs→x.cells.length=sz∧vs.length=sz∧x.cells.all cell=true∧Rl m φ x.cells vs
/-- how a loop over a function stands -/
def LpS.is (s:LpS) (r:Loop):Prop:=match s with
  | .ready=>r.state = .ready∧r.pending=none
  | .busy=>r.state = .busy
  | .done none=>r.state = .done∧r.pending=some .ret
  | .done (some i)=>r.state = .done∧r.pending=some (.exit i)
/-- slots are within -/
def dstOk (n:Nat):Option Nat→Bool
  |some d=>Nat.blt d n
  |none=>true
def noDefer:Op→Bool
  | .defer _=>false
  |_=>true
def slots (n:Nat):Code→Bool
  | .seq a b=>slots n a && slots n b
  | .region _ ops _=>ops.toList.all fun o=>dstOk n o.dst && noDefer o.op
  | .cond _ a b=>slots n a && slots n b
  | .block _ c=>slots n c
  | .loop c=>slots n c
  | .rangeFunc _ ps a b=>ps.toList.all (fun t=>Nat.blt t n) && slots n a && slots n b
  |_=>true
def SRo (m:Mem) (φ:Ph) (id:Nat):SO→Own→Prop
  | .dead,rs=>rs=[]
  | .box T cs,rs=>∃ b vs,φ id=some (.blk b)∧rs=[bx b T vs]∧Rl m φ cs vs∧cs.all cell=true
  | .frz cs,rs=>rs=[]∧∃ b vs,φ id=some (.blk b)∧RdN m b 0 vs∧Rl m φ cs vs∧cs.all cell=true
  | .row p e sz xs,rs=>∃ a cap vss,φ id=some (.row (.slice a xs.length cap) xs.length sz)∧rs=[.row p (.slice a xs.length cap) e sz xs.length vss.flatten]∧0 < sz∧RowR m φ sz xs vss
  | .lp ρ ps a b s,rs=>∃ l r,φ id=some (.blk l)∧rs=[.blk l (.loop r)]∧s.is r∧r.params=ps.toArray∧r.assign=a∧r.body=b∧slots r.tmps.size a=true∧slots r.tmps.size b=true∧ps.all (fun t=>Nat.blt t r.tmps.size)=true ∧
    ∀ t x,aget ρ t=some x→∃ v,r.tmps[t]? = some v∧R m φ x v
def SR (m:Mem) (φ:Ph):Nat→Sto→Own→Prop
  |_,[],μ=>μ=[]
  |k,o :: r,μ=>∃ rs μ',μ=rs ++ μ'∧SRo m φ k o rs∧SR m φ (k + 1) r μ'
section
variable {m m':Mem} {φ φ':Ph}
theorem RowR.mono {sz:Nat} {xs:List PV} {vss:List (List Value)} (h:RowR m φ sz xs vss) (hm:Mem.le m m') (hle:Le φ φ'):RowR m' φ' sz xs vss :=
  ⟨h.1,fun i x vs h1 h2=>⟨(h.2 i x vs h1 h2).1,(h.2 i x vs h1 h2).2.1,(h.2 i x vs h1 h2).2.2.1,(h.2 i x vs h1 h2).2.2.2.mono hm hle⟩⟩
theorem RowR.flat {sz:Nat}:∀ {xs:List PV} {vss:List (List Value)},RowR m φ sz xs vss→vss.flatten.length=xs.length * sz
  |[],[],_=>by simp
  |x :: xs,vs :: vss,h=>by
    have h0:=h.2 0 x vs rfl rfl
    have hr:RowR m φ sz xs vss:=⟨by have:=h.1; simpa using this,fun i x vs h1 h2=>h.2 (i + 1) x vs (by simpa using h1) (by simpa using h2)⟩
    rw [List.flatten_cons,List.length_append,hr.flat,h0.2.1,List.length_cons,Nat.succ_mul,Nat.add_comm]
  |[],_ :: _,h=>absurd h.1 (by simp)
  |_ :: _,[],h=>absurd h.1 (by simp)
theorem RowR.at {sz:Nat}:∀ {xs:List PV} {vss:List (List Value)},RowR m φ sz xs vss→∀ {i:Nat} {vs:List Value},vss[i]? = some vs→∀ (j:Nat),j < sz→vss.flatten[i * sz + j]? = vs[j]?
  |[],[],_,i,vs,h,_,_=>by simp at h
  |x :: xs,us :: vss,h,i,vs,hv,j,hj=>by
    have h0:=h.2 0 x us rfl rfl
    have hr:RowR m φ sz xs vss:=⟨by have:=h.1; simpa using this,fun i x vs h1 h2=>h.2 (i + 1) x vs (by simpa using h1) (by simpa using h2)⟩
    cases i with
    |zero =>
      simp at hv
      subst hv
      rw [List.flatten_cons,Nat.zero_mul,Nat.zero_add,List.getElem?_append_left (by rw [h0.2.1]; exact hj)]
    |succ i =>
      have:=hr.at (i:=i) (by simpa using hv) j hj
      rw [← this,List.flatten_cons,List.getElem?_append_right (by rw [h0.2.1,Nat.succ_mul]; omega),h0.2.1,Nat.succ_mul]
      congr 1
      omega
  |[],_ :: _,h,_,_,_,_,_=>absurd h.1 (by simp)
  |_ :: _,[],h,_,_,_,_,_=>absurd h.1 (by simp)
theorem RowR.append {sz:Nat} {xs ys:List PV} {us vs:List (List Value)} (h:RowR m φ sz xs us) (k:RowR m φ sz ys vs):RowR m φ sz (xs ++ ys) (us ++ vs):=by
  refine ⟨by simp [h.1,k.1],fun i x v h1 h2=>?_⟩
  by_cases hi:i < xs.length
  · rw [List.getElem?_append_left hi] at h1
    rw [List.getElem?_append_left (by have:=h.1; omega)] at h2
    exact h.2 i x v h1 h2
  · rw [List.getElem?_append_right (by omega)] at h1
    rw [List.getElem?_append_right (by have:=h.1; omega),← h.1] at h2
    exact k.2 _ x v h1 h2
theorem SRo.mono {id:Nat} {o:SO} {rs:Own} (h:SRo m φ id o rs) (hm:Mem.le m m') (hle:Le φ φ') (he:φ' id=φ id):SRo m' φ' id o rs:=by
  cases o with
  |dead=>exact h
  |box T cs=>obtain ⟨b,vs,h1,h2,h3,h4⟩:=h; exact ⟨b,vs,he.trans h1,h2,h3.mono hm hle,h4⟩
  |frz cs=>obtain ⟨h0,b,vs,h1,h2,h3,h4⟩:=h; exact ⟨h0,b,vs,he.trans h1,h2.mono hm,h3.mono hm hle,h4⟩
  |row p e sz xs=>obtain ⟨a,cap,vss,h1,h2,h3,h4⟩:=h; exact ⟨a,cap,vss,he.trans h1,h2,h3,h4.mono hm hle⟩
  |lp ρ ps a b s =>
    obtain ⟨l,r,h1,h2,h3,h4,h5,h6,h7,h8,h9,h10⟩:=h
    exact ⟨l,r,he.trans h1,h2,h3,h4,h5,h6,h7,h8,h9,fun t x ht=>(let ⟨v,q1,q2⟩:=h10 t x ht; ⟨v,q1,q2.mono hm hle⟩)⟩
theorem SR.mono (hm:Mem.le m m') (hle:Le φ φ'):∀ {k:Nat} {st:Sto} {μ:Own},SR m φ k st μ→(∀ id,k ≤ id→id < k + st.length→φ' id=φ id)→SR m' φ' k st μ
  |_,[],_,h,_=>h
  |k,o :: r,μ,h,he=>by
    obtain ⟨rs,μ',h1,h2,h3⟩:=h
    exact ⟨rs,μ',h1,h2.mono hm hle (he k (Nat.le_refl k) (by simp)),SR.mono hm hle h3 fun id h4 h5=>he id (by omega) (by simp only [List.length_cons]; omega)⟩
/-- one of the store's things, taken out, and another put in its place -/
theorem SR.get:∀ {k:Nat} {st:Sto} {μ:Own} {i:Nat} {o:SO},SR m φ k st μ→st[i]? = some o→∃ μ1 rs μ2,μ=μ1 ++ (rs ++ μ2)∧SRo m φ (k + i) o rs ∧
    ∀ {m':Mem} {φ':Ph} {o':SO} {rs':Own},Mem.le m m'→Le φ φ'→(∀ id,id ≠ k + i→φ' id=φ id)→SRo m' φ' (k + i) o' rs'→SR m' φ' k (st.set i o') (μ1 ++ (rs' ++ μ2))
  |_,[],_,i,o,_,h=>by simp at h
  |k,q :: r,μ,i,o,h,hi=>by
    obtain ⟨rs,μ',h1,h2,h3⟩:=h
    cases i with
    |zero =>
      simp at hi
      subst hi
      refine ⟨[],rs,μ',by simpa using h1,h2,fun {m' φ' o' rs'} hm hle he ho=>?_⟩
      exact ⟨rs',μ',rfl,ho,h3.mono hm hle fun id h4 _=>he id (by omega)⟩
    |succ i =>
      obtain ⟨μ1,rs2,μ2,h4,h5,h6⟩:=SR.get h3 (show r[i]? = some o by simpa using hi)
      refine ⟨rs ++ μ1,rs2,μ2,by rw [h1,h4]; simp,by rw [show k + (i + 1)=k + 1 + i by omega]; exact h5,fun {m' φ' o' rs'} hm hle he ho=>?_⟩
      exact ⟨rs,μ1 ++ (rs' ++ μ2),by simp,h2.mono hm hle (he k (by omega)),h6 hm hle (fun id hne=>he id (by omega)) (by rw [show k + 1 + i=k + (i + 1) by omega]; exact ho)⟩
theorem SR.snoc:∀ {k:Nat} {st:Sto} {μ:Own} {o:SO} {rs:Own},SR m φ k st μ→SRo m φ (k + st.length) o rs→SR m φ k (st ++ [o]) (μ ++ rs)
  |k,[],μ,o,rs,h,ho=>by
    have h:μ=[]:=h
    subst h
    exact ⟨rs,[],by simp,ho,rfl⟩
  |k,q :: r,μ,o,rs,h,ho=>by
    obtain ⟨rs1,μ',h1,h2,h3⟩:=h
    exact ⟨rs1,μ' ++ rs,by rw [h1]; simp,h2,SR.snoc h3 (by rw [show k + 1 + r.length=k + (q :: r).length by simp; omega]; exact ho)⟩
/-- how things stand -/
structure Sit (E:Entry) (m:Mem) (φ:Ph) (μ:Own) (st:Sto) (w:World):Prop where
  good:Hb.Good E w m μ
  sto:SR m φ 0 st μ
  dom:∀ id,st.length ≤ id→φ id=none
/-- what stays as it was -/
structure Ext (st st':Sto) (φ φ':Ph):Prop where
  le:Le φ φ'
  len:st.length ≤ st'.length
  dead:∀ id,st[id]? = some .dead→st'[id]? = some .dead∧φ' id=φ id
theorem Ext.refl (st:Sto) (φ:Ph):Ext st st φ φ:=⟨Le.refl φ,Nat.le_refl _,fun _ h=>⟨h,rfl⟩⟩
theorem Ext.trans {st st' st'':Sto} {φ φ' φ'':Ph} (h:Ext st st' φ φ') (k:Ext st' st'' φ' φ''):Ext st st'' φ φ'' :=
  ⟨h.le.trans k.le,Nat.le_trans h.len k.len,fun id e=>⟨(k.dead id (h.dead id e).1).1,(k.dead id (h.dead id e).1).2.trans (h.dead id e).2⟩⟩
theorem Good.memW {E:Entry} {w:World} {μ:Own} (h:Hb.Good E w m μ):MemW m w:=fun _ _ _ e=>h.cell e
end
/-! looks at the store -/
section
variable {P:Program} {E:Entry} {m:Mem} {φ:Ph} {μ:Own} {st:Sto} {ρ:AEnv} {a:Act} {w:World} {dst:Option Nat} {ty:TypeId} {pos:String} {after:Array Edge} {gd:Option (Nat × Bool)}
theorem loadS_run {T:TypeId} {ag:Bool} {k:Nat} {p u:PV} {v:Value} (hs:Sit E m φ μ st w) (ht:tk P T=some (ag,k)) (h:loadS st ag k p=some u) (hp:R m φ p v):∃ b off r,v = .pointer (some ⟨b,off,none⟩)∧(loadVar T ⟨b,off,none⟩).run P w = .ok r w∧R m φ u r:=by
  unfold loadS at h
  split at h
  · rename_i id off
    cases hp with
    | @bp _ _ _ b hφ =>
      split at h
      · rename_i T' cs ho
        obtain ⟨μ1,rs,μ2,h1,h2,_⟩:=hs.sto.get ho
        obtain ⟨b',vs,h3,h4,h5,h6⟩:=h2
        rw [Nat.zero_add,hφ] at h3
        cases h3
        obtain ⟨r,h7,h8⟩:=loadP_R h h5 h6
        have hb:w.heap[b]? = some (.cells vs.toArray T' (0,0)):=hs.good.own (r:=bx b T' vs) (by rw [h1,h4]; simp)
        exact ⟨b,off,r,rfl,Gw.run_loadVar_cells (w:=w) (b:=b) ht (fun j u hu=>Gw.cell_of_cells hb hu) h7,h8⟩
      · rename_i cs ho
        obtain ⟨μ1,rs,μ2,h1,h2,_⟩:=hs.sto.get ho
        obtain ⟨_,b',vs,h3,h4,h5,h6⟩:=h2
        rw [Nat.zero_add,hφ] at h3
        cases h3
        obtain ⟨r,h7,h8⟩:=loadP_R h h5 h6
        exact ⟨b,off,r,rfl,Gw.run_loadVar_cells (w:=w) (b:=b) ht (fun j u hu=>by
          have:=hs.good.cell (h4 j u hu)
          rwa [Nat.zero_add] at this) h7,h8⟩
      · cases h
  · rename_i id len i off
    cases hp with
    | @rp _ _ _ _ _ n sz sv v hφ hle hv hpp =>
      split at h
      · rename_i p' e sz0 xs ho
        obtain ⟨μ1,rs,μ2,h1,h2,_⟩:=hs.sto.get ho
        obtain ⟨ad,cap,vss,h3,h4,hsz,h5⟩:=h2
        rw [Nat.zero_add,hφ] at h3
        cases h3
        split at h
        · rename_i x hlen hx
          obtain ⟨b,cap',e1,rfl⟩:=hv (Nat.eq_of_beq_eq_true hlen)
          cases e1
          obtain ⟨vs,hvs⟩:∃ vs,vss[i]? = some vs:=⟨_,List.getElem?_eq_getElem (by have:=h5.1; have:=(List.getElem?_eq_some_iff.1 hx).1; omega)⟩
          obtain ⟨q1,q2,q3,q4⟩:=h5.2 i x vs hx hvs
          obtain ⟨r,h7,h8⟩:=loadP_R h q4 q3
          have hown:w.ownsRow 0 e sz (.slice (some ⟨b,0,none⟩) xs.length cap) xs.length vss.flatten:=hs.good.own (r:=.row p' (.slice (some ⟨b,0,none⟩) xs.length cap) e sz xs.length vss.flatten) (by rw [h1,h4]; simp)
          have hcells:=hown.cells (g:=b) rfl
          have hc:∀ (j:Nat) u,vs[j]? = some u→w.cell? ⟨b,i * sz + j,none⟩=some u:=fun j u hu=>by
            have hj:j < sz:=by have:=(List.getElem?_eq_some_iff.1 hu).1; omega
            have:=hcells (i * sz + j) u (by rw [h5.at hvs j hj]; exact hu)
            rwa [Addr.add_lit,Nat.zero_add] at this
          refine ⟨b,i * sz + off,r,rfl,?_,h8⟩
          have hd:Gw.loadV ag (vs.drop off) 0 k=some r:=by
            unfold Gw.loadV at h7 ⊢
            cases ag with
            |true =>
              simp only at h7 ⊢
              split at h7
              · rename_i hle'
                have hle'':=Nat.le_of_ble_eq_true hle'
                have:Nat.ble (0 + k) (vs.drop off).length=true:=Nat.ble_eq_true_of_le (by simp; omega)
                rw [this]
                simpa [Gw.cut] using h7
              · cases h7
            |false=>simpa using h7
          exact run_loadVar (w:=w) ht (fun j u hu=>by
            rw [List.getElem?_drop] at hu
            have:=hc _ u hu
            rwa [← Nat.add_assoc] at this) hd
        · cases h
      · cases h
  · cases h
theorem does_K {op:Op} {u:PV} (hs:Sit E m φ μ st w) (h:EnvR m φ ρ a) (hx:aK P ρ st op=some u):Does P w a m φ ⟨dst,op,ty,pos,after,gd⟩ u:=by
  unfold aK at hx
  split at hx
  · rename_i T x i
    split at hx
    · rename_i e z p pi ht hp hpi
      split at hx
      · rename_i q hq
        obtain ⟨k,ek⟩:=nat_int hq (aval_R h hpi)
        unfold rowIdx at hx
        split at hx
        · rename_i id len
          split at hx
          · rename_i p' e' sz xs ho
            split at hx
            · rename_i hb
              cases hx
              simp only [Bool.and_eq_true] at hb
              have hlen:=Nat.eq_of_beq_eq_true hb.1.1
              have hlt:q < len:=by simpa [Nat.blt_eq] using hb.1.2
              obtain rfl:=Nat.eq_of_beq_eq_true hb.2
              have hr:=aval_R h hp
              generalize he:a.eval x=ev at hr
              cases hr with
              | @ms _ _ _ n sz sv v hφ hle hv hsl =>
                obtain ⟨μ1,rs,μ2,h1,h2,_⟩:=hs.sto.get ho
                obtain ⟨ad,cap,vss,h3,h4,hsz,h5⟩:=h2
                rw [Nat.zero_add,hφ] at h3
                cases h3
                obtain rfl:=hv hlen
                have hown:w.ownsRow 0 e' z (.slice ad xs.length cap) xs.length vss.flatten:=hs.good.own (r:=.row p' (.slice ad xs.length cap) e' z xs.length vss.flatten) (by rw [h1,h4]; simp)
                obtain ⟨b,rfl⟩:∃ b,ad=some ⟨b,0,none⟩:=by
                  rcases hown.2 with ⟨_,h0⟩|⟨g,cap',cur,hv',_⟩
                  · omega
                  · cases hv'; exact ⟨g,rfl⟩
                refine ⟨.pointer (some ⟨b,q * z + 0,none⟩),?_,.rp hφ hle (fun _=>⟨b,cap,rfl,rfl⟩) ⟨_,_,rfl⟩⟩
                unfold tsl at ht
                split at ht
                · rename_i e'' hee
                  cases hii:P.info? e'' with
                  |none=>simp [hii] at ht
                  |some ii =>
                    simp [hii] at ht
                    obtain ⟨rfl,rfl⟩:=ht
                    have hlt':q < xs.length:=by omega
                    simp [execOp,Instr.indexAt,he,ek,asIntOf,run_underlying hee,hlt',sizeOf,typeInfo,hii,Addr.add_lit]
                · cases ht
            · cases hx
          · cases hx
        · cases hx
      · cases hx
    · cases hx
  · rename_i T x
    split at hx
    · rename_i ag k p ht hp
      obtain ⟨b,off,r,e,h1,h2⟩:=loadS_run hs ht hx (aval_R h hp)
      exact ⟨r,by simp [execOp,Instr.loadAt,e,Instr.sureAddr,h1],h2⟩
    · cases hx
  · rename_i xs ts
    split at hx
    · rename_i x T hxs hts
      obtain rfl:xs = #[x]:=by apply Array.ext'; simpa using hxs
      obtain rfl:ts = #[T]:=by apply Array.ext'; simpa using hts
      split at hx
      · rename_i e v ht hv
        unfold rowLen at hx
        split at hx
        · rename_i id len
          split at hx
          · rename_i p' e' sz xs ho
            split at hx
            · rename_i hlen
              cases hx
              have hr:=aval_R h hv
              generalize he:a.eval x=ev at hr
              cases hr with
              | @ms _ _ _ n sz sv v hφ hle hvv hsl =>
                obtain ⟨μ1,rs,μ2,h1,h2,_⟩:=hs.sto.get ho
                obtain ⟨ad,cap,vss,h3,h4,hsz,h5⟩:=h2
                rw [Nat.zero_add,hφ] at h3
                cases h3
                obtain rfl:=Nat.eq_of_beq_eq_true hlen
                obtain rfl:=hvv rfl
                refine ⟨_,?_,.sc rfl⟩
                unfold tsl at ht
                split at ht
                · rename_i e'' hee
                  simp [execOp,resolve,invoke,builtin,Builtin.len_,he,run_underlying hee,goInt]
                · cases ht
            · cases hx
          · cases hx
        · cases hx
      · cases hx
    · cases hx
  · cases hx
end
end Go.Am

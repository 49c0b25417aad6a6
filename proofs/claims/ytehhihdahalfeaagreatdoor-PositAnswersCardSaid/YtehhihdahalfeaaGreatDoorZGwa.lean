/-
  A small logic of blocks for walks over the model: what is known of memory is a part of the heap that never changes ('Mem') and a list of blocks and rows that the run owns ('Own'). Plain lemmas, no statement of the seat.
-/
import Derived.WalkKit
import Derived.Laws.AppendOwn
import Derived.Laws.AppendOwnNone
import Derived.Deep.RegionWith
import Derived.Orders
set_option linter.unusedVariables false
set_option linter.unusedSimpArgs false
set_option linter.unnecessarySimpa false
namespace Go.Gw
open Go
abbrev Mem:=Nat→Option Obj
abbrev Env:=List (Nat × Value)
def Mem.le (m m':Mem):Prop:=∀ b o,m b=some o→m' b=some o
theorem Mem.le.refl (m:Mem):Mem.le m m:=fun _ _ h=>h
theorem Mem.le.trans {a b c:Mem} (h:Mem.le a b) (k:Mem.le b c):Mem.le a c:=fun x o e=>k x o (h x o e)
inductive Res where
  |blk (b:Nat) (o:Obj)
  |row (v:Value) (T:TypeId) (sz n:Nat) (xs:List Value)
def Res.foot:Res→Option Nat
  | .blk b _=>some b
  | .row v _ _ _ _=>v.ownBlock
def Res.holds (w:World):Res→Prop
  | .blk b o=>w.heap[b]? = some o
  | .row v T sz n xs=>w.ownsRow 0 T sz v n xs
abbrev Own:=List Res
/-- how a run began: the world, what was known for good, which blocks it may write -/
structure Entry where
  w:World
  m:Mem
  F:Nat→Prop
structure Good (E:Entry) (w:World) (m:Mem) (μ:Own):Prop where
  os:w.os=E.w.os
  tape:w.tape=E.w.tape
  output:w.output=E.w.output
  size:E.w.heap.size ≤ w.heap.size
  keep:∀ b,b < E.w.heap.size→¬ E.F b→w.heap[b]? = E.w.heap[b]?
  sub:∀ b o,m b=some o→w.heap[b]? = some o
  mem:Mem.le E.m m
  fresh:∀ b o,m b=some o→E.m b=some o∨E.F b∨E.w.heap.size ≤ b
  holds:∀ r ∈ μ,r.holds w
  feet:∀ r ∈ μ,∀ b,r.foot=some b→(E.F b∨E.w.heap.size ≤ b)∧m b=none
  apart:μ.Pairwise (fun r s=>∀ b,r.foot=some b→s.foot ≠ some b)
theorem Res.holds_lt {w:World} {r:Res} {b:Nat} (h:r.holds w) (hb:r.foot=some b):b < w.heap.size:=by
  cases r with
  |blk b' o =>
    simp only [Res.foot,Option.some.injEq] at hb
    subst hb
    exact (Array.getElem?_eq_some_iff.1 h).1
  |row v T sz n xs=>exact (World.ownsRow.lt h b hb).2
/-- a resource stays where its own block stays -/
theorem Res.holds_of {w w':World} {r:Res} (h:r.holds w) (hk:∀ b,r.foot=some b→w'.heap[b]? = w.heap[b]?):r.holds w':=by
  cases r with
  |blk b o=>exact (hk b rfl).trans h
  |row v T sz n xs =>
    obtain ⟨h1,h2⟩:=h
    refine ⟨h1,?_⟩
    rcases h2 with h2|⟨g,cap,cur,rfl,hb,hg,rest⟩
    · exact .inl h2
    · exact .inr ⟨g,cap,cur,rfl,hb,(hk g rfl).trans hg,rest⟩
theorem mem_lt {w:World} {b:Nat} {o:Obj} (h:w.heap[b]? = some o):b < w.heap.size:=(Array.getElem?_eq_some_iff.1 h).1
theorem Good.drew {E:Entry} {w:World} {m:Mem} {μ:Own} (h:Good E w m μ) (k:Nat):Good E { w with drawn:=k } m μ :=
  ⟨h.os,h.tape,h.output,h.size,h.keep,h.sub,h.mem,h.fresh,fun r hr=>Res.holds_of (h.holds r hr) (fun _ _=>rfl),h.feet,h.apart⟩
/-- dropping what is owned -/
theorem Good.drop {E:Entry} {w:World} {m:Mem} {μ μ':Own} (h:Good E w m μ) (hs:μ'.Sublist μ):Good E w m μ' :=
  ⟨h.os,h.tape,h.output,h.size,h.keep,h.sub,h.mem,h.fresh,fun r hr=>h.holds r (hs.subset hr),fun r hr=>h.feet r (hs.subset hr),h.apart.sublist hs⟩
/-- any order of what is owned -/
theorem Good.perm {E:Entry} {w:World} {m:Mem} {μ μ':Own} (h:Good E w m μ) (hs:μ.Perm μ'):Good E w m μ' :=
  ⟨h.os,h.tape,h.output,h.size,h.keep,h.sub,h.mem,h.fresh,fun r hr=>h.holds r (hs.mem_iff.2 hr),fun r hr=>h.feet r (hs.mem_iff.2 hr),
    (hs.pairwise_iff (fun {x y} hxy b hb hx=>hxy b hx hb)).1 h.apart⟩
/-- a new block -/
theorem Good.new {E:Entry} {w:World} {m:Mem} {μ:Own} (h:Good E w m μ) (o:Obj) :
    Good E { w with heap:=w.heap.push o } m (.blk w.heap.size o :: μ):=by
  have hold:∀ b,b < w.heap.size→(w.heap.push o)[b]? = w.heap[b]?:=fun b hb=>by rw [Array.getElem?_push,if_neg (by omega)]
  refine ⟨h.os,h.tape,h.output,by have:=h.size; simp; omega,fun b hb hf=>?_,fun b o' hb=>?_,h.mem,h.fresh,fun r hr=>?_,fun r hr b hb=>?_,?_⟩
  · rw [← h.keep b hb hf]; exact hold b (Nat.lt_of_lt_of_le hb h.size)
  · rw [← h.sub b o' hb]; exact hold b (mem_lt (h.sub b o' hb))
  · rcases List.mem_cons.1 hr with rfl|hr
    · simp [Res.holds]
    · exact Res.holds_of (h.holds r hr) (fun b hb=>hold b (Res.holds_lt (h.holds r hr) hb))
  · rcases List.mem_cons.1 hr with rfl|hr
    · simp only [Res.foot,Option.some.injEq] at hb
      subst hb
      refine ⟨.inr h.size,?_⟩
      cases e:m w.heap.size with
      |none=>rfl
      |some o'=>exact absurd (mem_lt (h.sub _ _ e)) (Nat.lt_irrefl _)
    · exact h.feet r hr b hb
  · refine List.pairwise_cons.2 ⟨fun s hs b hb hs'=>?_,h.apart⟩
    simp only [Res.foot,Option.some.injEq] at hb
    subst hb
    exact absurd (Res.holds_lt (h.holds s hs) hs') (Nat.lt_irrefl _)
/-- one of what is owned turns, with its own block alone -/
theorem Good.turn {E:Entry} {w w':World} {m:Mem} {r r':Res} {μ:Own} (h:Good E w m (r :: μ))
    (hos:w'.os=w.os) (htape:w'.tape=w.tape) (hout:w'.output=w.output) (hsize:w.heap.size ≤ w'.heap.size)
    (hk:∀ b,b < w.heap.size→r.foot ≠ some b→w'.heap[b]? = w.heap[b]?) (hr:r'.holds w')
    (hf:∀ b,r'.foot=some b→r.foot=some b∨w.heap.size ≤ b):Good E w' m (r' :: μ):=by
  have hμ:∀ s ∈ μ,∀ b,s.foot=some b→r.foot ≠ some b:=fun s hs b hb hr'=>(List.pairwise_cons.1 h.apart).1 s hs b hr' hb
  have hold:∀ s ∈ μ,s.holds w':=fun s hs=>Res.holds_of (h.holds s (List.mem_cons_of_mem _ hs)) (fun b hb=>hk b (Res.holds_lt (h.holds s (List.mem_cons_of_mem _ hs)) hb) (hμ s hs b hb))
  refine ⟨hos.trans h.os,htape.trans h.tape,hout.trans h.output,Nat.le_trans h.size hsize,fun b hb hF=>?_,fun b o hb=>?_,h.mem,h.fresh,fun s hs=>?_,fun s hs b hb=>?_,?_⟩
  · refine (hk b (Nat.lt_of_lt_of_le hb h.size) (fun e=>?_)).trans (h.keep b hb hF)
    rcases (h.feet r List.mem_cons_self b e).1 with h1|h1
    · exact hF h1
    · omega
  · refine (hk b (mem_lt (h.sub b o hb)) (fun e=>?_)).trans (h.sub b o hb)
    rw [(h.feet r List.mem_cons_self b e).2] at hb
    cases hb
  · rcases List.mem_cons.1 hs with rfl|hs
    · exact hr
    · exact hold s hs
  · rcases List.mem_cons.1 hs with rfl|hs
    · rcases hf b hb with h1|h1
      · exact h.feet r List.mem_cons_self b h1
      · refine ⟨.inr (Nat.le_trans h.size h1),?_⟩
        cases e:m b with
        |none=>rfl
        |some o'=>exact absurd (mem_lt (h.sub _ _ e)) (by omega)
    · exact h.feet s (List.mem_cons_of_mem _ hs) b hb
  · refine List.pairwise_cons.2 ⟨fun s hs b hb hs'=>?_,(List.pairwise_cons.1 h.apart).2⟩
    rcases hf b hb with h1|h1
    · exact hμ s hs b hs' h1
    · exact absurd (Res.holds_lt (h.holds s (List.mem_cons_of_mem _ hs)) hs') (by omega)
def Mem.add (m:Mem) (b:Nat) (o:Obj):Mem:=fun c=>if c=b then some o else m c
/-! ### a function's contract -/
def feetOf (μ:Own) (b:Nat):Prop:=∃ r ∈ μ,r.foot=some b
def Cspec (P:Program) (f:FuncId) (args:Array Value) (m:Mem) (μ:Own) (Post:Ending→Mem→Own→Prop):Prop :=
  ∀ w,Good ⟨w,m,feetOf μ⟩ w m μ→Calls P f args w fun e w'=>∃ m' μ',Good ⟨w,m,feetOf μ⟩ w' m' μ'∧Post e m' μ'
theorem Cspec.mono {P:Program} {f:FuncId} {args:Array Value} {m:Mem} {μ:Own} {Post Post':Ending→Mem→Own→Prop} (h:Cspec P f args m μ Post)
    (hp:∀ e m' μ',Mem.le m m'→Post e m' μ'→Post' e m' μ'):Cspec P f args m μ Post' :=
  fun w hg=>(h w hg).mono fun e w' ⟨m',μ',hg',hq⟩=>⟨m',μ',hg',hp e m' μ' hg'.mem hq⟩
/-- the caller's state ahead of a call is the callee's start -/
theorem Good.start {E:Entry} {w:World} {m:Mem} {μ ν:Own} (h:Good E w m (μ ++ ν)):Good ⟨w,m,feetOf μ⟩ w m μ :=
  ⟨rfl,rfl,rfl,Nat.le_refl _,fun _ _ _=>rfl,h.sub,Mem.le.refl m,fun _ _ e=>.inl e,fun r hr=>h.holds r (List.mem_append_left _ hr),
    fun r hr b hb=>⟨.inl ⟨r,hr,hb⟩,(h.feet r (List.mem_append_left _ hr) b hb).2⟩,(List.pairwise_append.1 h.apart).1⟩
/-- and behind it the callee's end is the caller's state -/
theorem Good.back {E:Entry} {w w':World} {m m':Mem} {μ μ' ν:Own} (h:Good E w m (μ ++ ν)) (k:Good ⟨w,m,feetOf μ⟩ w' m' μ'):Good E w' m' (μ' ++ ν):=by
  have hap:=List.pairwise_append.1 h.apart
  have hν:∀ s ∈ ν,∀ b,s.foot=some b→¬ feetOf μ b:=fun s hs b hb ⟨r,hr,hr'⟩=>hap.2.2 r hr s hs b hr' hb
  have hνw:∀ s ∈ ν,∀ b,s.foot=some b→b < w.heap.size:=fun s hs b hb=>Res.holds_lt (h.holds s (List.mem_append_right _ hs)) hb
  have hμE:∀ b,feetOf μ b→(E.F b∨E.w.heap.size ≤ b):=fun b ⟨r,hr,hb⟩=>(h.feet r (List.mem_append_left _ hr) b hb).1
  refine ⟨k.os.trans h.os,k.tape.trans h.tape,k.output.trans h.output,Nat.le_trans h.size k.size,fun b hb hF=>?_,k.sub,h.mem.trans k.mem,fun b o e=>?_,fun r hr=>?_,fun r hr b hb=>?_,?_⟩
  · refine (k.keep b (Nat.lt_of_lt_of_le hb h.size) (fun hf=>?_)).trans (h.keep b hb hF)
    rcases hμE b hf with h1|h1
    · exact hF h1
    · omega
  · rcases k.fresh b o e with h1|h1|h1
    · exact h.fresh b o h1
    · exact .inr (hμE b h1)
    · exact .inr (.inr (Nat.le_trans h.size h1))
  · rcases List.mem_append.1 hr with hr|hr
    · exact k.holds r hr
    · exact Res.holds_of (h.holds r (List.mem_append_right _ hr)) (fun b hb=>k.keep b (hνw r hr b hb) (hν r hr b hb))
  · rcases List.mem_append.1 hr with hr|hr
    · obtain ⟨h1,h2⟩:=k.feet r hr b hb
      refine ⟨?_,h2⟩
      rcases h1 with h1|h1
      · exact hμE b h1
      · exact .inr (Nat.le_trans h.size h1)
    · obtain ⟨h1,h2⟩:=h.feet r (List.mem_append_right _ hr) b hb
      refine ⟨h1,?_⟩
      cases e:m' b with
      |none=>rfl
      |some o =>
        rcases k.fresh b o e with h3|h3|h3
        · have h4:m b=some o:=h3
          rw [h2] at h4
          cases h4
        · exact absurd h3 (hν r hr b hb)
        · exact absurd (hνw r hr b hb) (Nat.not_lt.2 h3)
  · refine List.pairwise_append.2 ⟨k.apart,hap.2.1,fun r hr s hs b hb hs'=>?_⟩
    rcases (k.feet r hr b hb).1 with h1|h1
    · exact hν s hs b hs' h1
    · exact absurd (hνw s hs b hs') (Nat.not_lt.2 h1)
/-! ### frames -/
def eget:Env→Nat→Option Value
  |[],_=>none
  |(k,v) :: r,t=>match Nat.beq k t with
    |true=>some v
    |false=>eget r t
def ov (ρ:Env):Operand→Option Value
  | .tmp t=>eget ρ t
  | .const v=>some v
  | .global g=>some (.pointer (some ⟨g,0,none⟩))
  | .func f=>some (.func (.func f) #[] #[])
structure St where
  ρ:Env
  m:Mem
  μ:Own
  D:List Deferred
structure Fits (n:Nat) (s:St) (a:Act):Prop where
  size:a.tmps.size=n
  get:∀ t v,eget s.ρ t=some v→a.tmps[t]? = some v
  dfr:a.defers=s.D
theorem Fits.ov {n:Nat} {s:St} {a:Act} (h:Fits n s a) {x:Operand} {v:Value} (hx:ov s.ρ x=some v):a.eval x=v:=by
  cases x with
  |tmp t =>
    have:=h.get t v hx
    simp [Act.eval,this]
  |const c=>simpa [Gw.ov,Act.eval] using hx
  |global g=>simpa [Gw.ov,Act.eval] using hx
  |func f=>simpa [Gw.ov,Act.eval] using hx
theorem eget_put {ρ:Env} {d t:Nat} {v u:Value}:eget ((d,v) :: ρ) t=some u↔(d=t∧v=u)∨(d ≠ t∧eget ρ t=some u):=by
  by_cases h:d=t
  · subst h; simp [eget]
  · have:Nat.beq d t=false:=Bool.eq_false_iff.2 (fun e=>h (Nat.eq_of_beq_eq_true e))
    simp [eget,this,h]
theorem Fits.put {n:Nat} {ρ:Env} {m m':Mem} {μ μ':Own} {D:List Deferred} {a:Act} (h:Fits n ⟨ρ,m,μ,D⟩ a) (d:Nat) (v:Value) (hd:Nat.blt d n=true) :
    Fits n ⟨(d,v) :: ρ,m',μ',D⟩ (a.put (some d) v):=by
  have hd':d < a.tmps.size:=by rw [h.size]; simpa [Nat.blt_eq] using hd
  refine ⟨by simp [Act.put,h.size],fun t u ht=>?_,h.dfr⟩
  rcases eget_put.1 ht with ⟨rfl,rfl⟩|⟨h1,h2⟩
  · simp [Act.put,Array.getElem?_setIfInBounds,hd']
  · simp [Act.put,Array.getElem?_setIfInBounds,h1]
    exact h.get t u h2
theorem Fits.same {n:Nat} {ρ:Env} {m m':Mem} {μ μ':Own} {D:List Deferred} {a:Act} (h:Fits n ⟨ρ,m,μ,D⟩ a):Fits n ⟨ρ,m',μ',D⟩ a:=⟨h.size,h.get,h.dfr⟩
/-- each of the slots that are kept holds what it did -/
def esub (ρ:Env):Env→Prop
  |[]=>True
  |(k,v) :: r=>eget ρ k=some v∧esub ρ r
theorem esub.get {ρ:Env}:∀ {σ:Env},esub ρ σ→∀ t v,eget σ t=some v→eget ρ t=some v
  |[],_,_,_,h=>by simp [eget] at h
  |(k,u) :: r,hs,t,v,h=>by
    rcases eget_put.1 h with ⟨rfl,rfl⟩|⟨_,h2⟩
    · exact hs.1
    · exact esub.get hs.2 t v h2
/-! ### the judgements -/
def Lift (E:Entry) (n:Nat) (K:Exit→St→Prop) (e:Exit) (a:Act) (w:World):Prop:=∃ s:St,Good E w s.m s.μ∧Fits n s a∧K e s
def X (E:Entry) (P:Program) (n:Nat) (c:Code) (s:St) (K:Exit→St→Prop):Prop :=
  ∀ w a,Good E w s.m s.μ→Fits n s a→c.wp P (Lift E n K) a w
def XO (E:Entry) (P:Program) (n:Nat) (ops:Array Oper) (rest:List Oper) (s:St) (K:Exit→St→Prop):Prop :=
  ∀ w a,Good E w s.m s.μ→Fits n s a→wpList P ops (Lift E n K) rest a w
def Kseq (E:Entry) (P:Program) (n:Nat) (c:Code) (K:Exit→St→Prop):Exit→St→Prop
  | .normal,s=>X E P n c s K
  |e,s=>K e s
def Kblock (id:Nat) (K:Exit→St→Prop):Exit→St→Prop
  | .exit i,s=>match Nat.beq i id with
    |true=>K .normal s
    |false=>K (.exit i) s
  |e,s=>K e s
section
variable {E:Entry} {P:Program} {n:Nat} {K:Exit→St→Prop} {s:St}
/-- a loop: the state at its head hangs on a ghost g and on what is known for good -/
def Kloop {G:Type} (ρI:G→Env) (μI:G→Own) (J:G→Mem→Prop) (meas:G→Nat) (D:List Deferred) (m0:Mem) (g:G) (K:Exit→St→Prop):Exit→St→Prop
  | .normal,s=>∃ g',meas g' < meas g∧J g' s.m∧esub s.ρ (ρI g')∧(μI g').Sublist s.μ∧s.D=D∧Mem.le m0 s.m
  |e,s=>K e s
/-! where ways meet again -/
def Kcut {G:Type} (ρI:G→Env) (μI:G→Own) (J:G→Mem→Prop) (D:List Deferred) (m0:Mem) (K:Exit→St→Prop):Exit→St→Prop
  | .normal,s=>∃ g,J g s.m∧esub s.ρ (ρI g)∧(μI g).Sublist s.μ∧s.D=D∧Mem.le m0 s.m
  |e,s=>K e s
/-! a loop, round by round -/
def LoopAt (P:Program) (c:Code) (Q:Exit→Act→World→Prop) (a:Act) (w:World):Prop :=
  ∀ (b:Frame) (k:List Item) (cs:List Frame),∃ e a' w',Q e a' w'∧Arrives P (lone (b.at a (.code c :: .inLoop c :: k)) cs w) b k cs e a' w'
def XL (E:Entry) (P:Program) (n:Nat) (c:Code) (s:St) (K:Exit→St→Prop):Prop:=∀ w a,Good E w s.m s.μ→Fits n s a→LoopAt P c (Lift E n K) a w
def Kunr (E:Entry) (P:Program) (n:Nat) (c:Code) (K:Exit→St→Prop):Exit→St→Prop
  | .normal,s=>XL E P n c s K
  |e,s=>K e s
end
end Go.Gw
namespace Go.Gw
open Go
def i64 (n:Int):Prop:=-9223372036854775808 ≤ n∧n ≤ 9223372036854775807
theorem wrap_i64 {n:Int} (h:i64 n):IntKind.i64.wrap n=n:=IntWalk.i64_in n h
/-! ### what is asked of the program's tables -/
def isAggD:TypeDesc→Bool
  | .struct _=>true
  | .array _ _=>true
  |_=>false
/-- is it an aggregate, and of how many cells -/
def tk (P:Program) (T:TypeId):Option (Bool × Nat) :=
  match P.underlying T,P.info? T with
  |some d,some i=>some (isAggD d,i.size)
  |_,_=>none
/-- a field's offset -/
def tf (P:Program) (T:TypeId) (f:Nat):Option Nat :=
  match P.underlying T with
  |some (.struct fs)=>match fs[f]? with
    |some fd=>match P.info? fd.type with
      |some i=>if i.size=0 then none else some fd.offset
      |none=>none
    |none=>none
  |_=>none
/-- a zero value -/
def tz (P:Program) (T:TypeId):Option Value:=(P.info? T).bind fun i=>i.zero
/-- a slice's element, and how many cells it has -/
def tsl (P:Program) (T:TypeId):Option (TypeId × Nat) :=
  match P.underlying T with
  |some (.slice e)=>(P.info? e).map fun i=>(e,i.size)
  |_=>none
/-- an array's length, element, and how many cells that has -/
def tar (P:Program) (T:TypeId):Option (Nat × TypeId × Nat) :=
  match P.underlying T with
  |some (.array k e)=>(P.info? e).map fun i=>(k,e,i.size)
  |_=>none
/-- a struct's places -/
def tpl (P:Program) (T:TypeId):Option (List (Nat × Nat)) :=
  match P.underlying T with
  |some (.struct fs)=>fs.toList.mapM fun f=>(P.info? f.type).map fun i=>(f.offset,i.size)
  |_=>none
abbrev bx (b:Nat) (T:TypeId) (cs:List Value):Res:=.blk b (.cells cs.toArray T (0,0))
/-- a cell that is known for good -/
def Rd (m:Mem) (b off:Nat) (v:Value):Prop:=∃ c T fr,m b=some (.cells c T fr)∧c[off]? = some v
/-- a run of cells -/
def RdN (m:Mem) (b off:Nat) (vs:List Value):Prop:=∀ j v,vs[j]? = some v→Rd m b (off + j) v
theorem Rd.mono {m m':Mem} {b off:Nat} {v:Value} (h:Rd m b off v) (hle:Mem.le m m'):Rd m' b off v:=by
  obtain ⟨c,T,fr,h1,h2⟩:=h
  exact ⟨c,T,fr,hle _ _ h1,h2⟩
theorem RdN.mono {m m':Mem} {b off:Nat} {vs:List Value} (h:RdN m b off vs) (hle:Mem.le m m'):RdN m' b off vs:=fun j v hv=>(h j v hv).mono hle
theorem Good.cell {E:Entry} {w:World} {m:Mem} {μ:Own} (h:Good E w m μ) {b off:Nat} {v:Value} (hr:Rd m b off v):w.cell? ⟨b,off,none⟩=some v:=by
  obtain ⟨c,T,fr,h1,h2⟩:=hr
  simp [World.cell?,h.sub _ _ h1,h2]
theorem Good.own {E:Entry} {w:World} {m:Mem} {μ:Own} (h:Good E w m μ) {i:Nat} {r:Res} (hi:μ[i]? = some r):r.holds w:=h.holds r (List.mem_of_getElem? hi)
theorem cell_of_cells {w:World} {b off:Nat} {cs:List Value} {T:TypeId} {fr:Nat × Nat} {v:Value} (h:w.heap[b]? = some (.cells cs.toArray T fr)) (hv:cs[off]? = some v):w.cell? ⟨b,off,none⟩=some v:=by
  simp [World.cell?,h,hv]
/-- a part of cells -/
def cut (cs:List Value) (off k:Nat):List Value:=(cs.drop off).take k
section
variable {E:Entry} {P:Program} {n:Nat} {K:Exit→St→Prop} {ρ:Env} {m:Mem} {μ:Own} {D:List Deferred} {ops:Array Oper} {rest:List Oper}
  {d:Nat} {ty:TypeId} {pos:String} {after:Array Edge}
structure FitsE (n:Nat) (ρ:Env) (a:Act):Prop where
  size:a.tmps.size=n
  get:∀ t v,eget ρ t=some v→a.tmps[t]? = some v
theorem FitsE.fits {a:Act} (h:FitsE n ρ a) (m:Mem) (μ:Own):Fits n ⟨ρ,m,μ,a.defers⟩ a:=⟨h.size,h.get,rfl⟩
theorem FitsE.ov {a:Act} (h:FitsE n ρ a) {x:Operand} {v:Value} (hx:ov ρ x=some v):a.eval x=v:=(h.fits (fun _=>none) []).ov hx
theorem Fits.e {a:Act} (h:Fits n ⟨ρ,m,μ,D⟩ a):FitsE n ρ a:=⟨h.size,h.get⟩
/-- an operation that asks nothing of memory -/
def Rn (P:Program) (n:Nat) (ρ:Env) (o:Oper) (v:Value):Prop:=∀ w a,FitsE n ρ a→(execOp a.eval o).run P w = .ok (.value v) w
/-- an operation that looks at memory -/
def RnL (E:Entry) (P:Program) (n:Nat) (ρ:Env) (m:Mem) (μ:Own) (o:Oper) (v:Value):Prop:=∀ w a,Good E w m μ→FitsE n ρ a→(execOp a.eval o).run P w = .ok (.value v) w
variable {dst:Option Nat} {gd:Option (Nat × Bool)} {T T':TypeId} {x y z:Operand} {i j:Int}
/-! integers -/
theorem and_one_small:∀ k:Fin 64,IntKind.i64.wrap ((BitVec.ofInt IntKind.i64.bits (k.val:Int) &&& BitVec.ofInt IntKind.i64.bits 1).toNat)=((k.val % 2:Nat):Int):=by decide +kernel
/-! builtins -/
/-! addresses -/
/-! a slice of a slice -/
/-! blocks -/
/-! loads -/
def loadV:Bool→List Value→Nat→Nat→Option Value
  |true,cs,off,k=>match Nat.ble (off + k) cs.length with
    |true=>some (.agg (cut cs off k).toArray)
    |false=>none
  |false,cs,off,_=>cs[off]?
theorem cut_get {cs:List Value} {off k j:Nat} {v:Value} (h:(cut cs off k)[j]? = some v):cs[off + j]? = some v:=by
  unfold cut at h
  rw [List.getElem?_take] at h
  split at h
  · rw [List.getElem?_drop] at h; exact h
  · cases h
theorem cut_length {cs:List Value} {off k:Nat} (h:off + k ≤ cs.length):(cut cs off k).length=k:=by
  unfold cut; simp; omega
theorem run_loadVar_cells {T:TypeId} {w:World} {b off k:Nat} {ag:Bool} {cs:List Value} {v:Value} (ht:tk P T=some (ag,k)) (hc:∀ j u,cs[j]? = some u→w.cell? ⟨b,j,none⟩=some u) (hv:loadV ag cs off k=some v) :
    (loadVar T ⟨b,off,none⟩).run P w = .ok v w:=by
  unfold tk at ht
  split at ht
  · rename_i dd ii hdd hii
    simp only [Option.some.injEq,Prod.mk.injEq] at ht
    obtain ⟨h1,h2⟩:=ht
    cases ag with
    |true =>
      simp only [loadV] at hv
      split at hv
      · rename_i hle
        simp only [Option.some.injEq] at hv
        subst hv
        have hle':off + k ≤ cs.length:=Nat.le_of_ble_eq_true hle
        have hl:(loadCells ⟨b,off,none⟩ k).run P w = .ok (cut cs off k).toArray w:=by
          have:=run_loadCells_list (P:=P) w ⟨b,off,none⟩ (cut cs off k) (fun j u hu=>by rw [Addr.add_lit]; exact hc _ _ (cut_get hu))
          rwa [cut_length hle'] at this
        have hagg:(isAgg T).run P w = .ok true w:=by
          unfold isAgg
          cases dd <;> simp [isAggD] at h1 <;> simp [run_underlying hdd]
        simp [loadVar,hagg,sizeOf,typeInfo,hii,h2,hl]
      · cases hv
    |false =>
      simp only [loadV] at hv
      have hagg:(isAgg T).run P w = .ok false w:=by
        unfold isAgg
        cases dd <;> simp [isAggD] at h1 <;> simp [run_underlying hdd]
      simp [loadVar,hagg,load,Sem.run,hc _ _ hv]
  · cases ht
/-! one of what is owned turns, wherever it stands -/
theorem split_at {α:Type} {l:List α} {q:Nat} {r:α} (h:l[q]? = some r):∃ l1 l2,l=l1 ++ r :: l2∧l1.length=q:=by
  have hlt:=(List.getElem?_eq_some_iff.1 h).1
  refine ⟨l.take q,l.drop (q + 1),?_,by simp; omega⟩
  have he:=(List.getElem?_eq_some_iff.1 h).2
  conv=>lhs; rw [← List.take_append_drop q l]
  rw [List.drop_eq_getElem_cons hlt,he]
def upd (cs:List Value) (off:Nat) (vs:List Value):List Value:=cs.take off ++ (vs ++ cs.drop (off + vs.length))
/-! composite values -/
theorem upd_get {cs vs:List Value} {off:Nat} (h:off + vs.length ≤ cs.length) (j:Nat):(upd cs off vs)[j]? = if j < off then cs[j]? else if j < off + vs.length then vs[j - off]? else cs[j]?:=by
  unfold upd
  by_cases h1:j < off
  · rw [if_pos h1,List.getElem?_append_left (by simp; omega),List.getElem?_take,if_pos h1]
  · rw [if_neg h1,List.getElem?_append_right (by simp; omega)]
    have hl:(cs.take off).length=off:=by simp; omega
    rw [hl]
    by_cases h2:j < off + vs.length
    · rw [if_pos h2,List.getElem?_append_left (by omega)]
    · rw [if_neg h2,List.getElem?_append_right (by omega),List.getElem?_drop]
      congr 1
      omega
theorem upd_length {cs vs:List Value} {off:Nat} (h:off + vs.length ≤ cs.length):(upd cs off vs).length=cs.length:=by
  unfold upd; simp; omega
theorem upd_cons {cs vs:List Value} {off:Nat} {v:Value} (h:off + (v :: vs).length ≤ cs.length):upd cs off (v :: vs)=upd (cs.set off v) (off + 1) vs:=by
  simp only [List.length_cons] at h
  apply List.ext_getElem?
  intro j
  rw [upd_get (by simp; omega),upd_get (by simp; omega),List.getElem?_set]
  simp only [List.length_cons]
  by_cases h1:j < off
  · rw [if_pos h1,if_pos (by omega),if_neg (by omega)]
  · rw [if_neg h1]
    by_cases h2:j=off
    · subst h2
      rw [if_pos (by omega),if_pos (by omega),if_pos rfl,if_pos (by omega)]
      simp
    · by_cases h3:j < off + (vs.length + 1)
      · rw [if_pos h3,if_neg (by omega),if_pos (by omega)]
        have:j - off=(j - (off + 1)) + 1:=by omega
        rw [this]; simp
      · rw [if_neg h3,if_neg (by omega),if_neg (by omega),if_neg (by omega)]
theorem foldl_upd (off:Nat):∀ (vs:List Value) (j:Nat) (cs:List Value),off + j + vs.length ≤ cs.length →
    (vs.zipIdx j).foldl (fun (a:Array Value) (p:Value × Nat)=>a.setIfInBounds (off + p.2) p.1) cs.toArray=(upd cs (off + j) vs).toArray
  |[],j,cs,h=>by simp [upd]
  |v :: vs,j,cs,h=>by
    have h0:off + (j + 1) + vs.length ≤ (cs.set (off + j) v).length:=by simp only [List.length_set,List.length_cons] at h ⊢; omega
    have ih:=foldl_upd off vs (j + 1) (cs.set (off + j) v) h0
    rw [upd_cons h]
    simp only [List.zipIdx_cons,List.foldl_cons,List.setIfInBounds_toArray]
    exact ih
def fillL (place:Nat→Option (Nat × Nat)) (cs:List Value):List (Nat × Value)→Option (List Value)
  |[]=>some cs
  |(i,v) :: r=>match place i with
    |some (off,size)=>match Nat.beq v.cells.toList.length size,Nat.ble (off + size) cs.length with
      |true,true=>fillL place (upd cs off v.cells.toList) r
      |_,_=>none
    |none=>none
theorem fill_of_fillL (place:Nat→Option (Nat × Nat)):∀ (parts:List (Nat × Value)) (cs cs':List Value),fillL place cs parts=some cs'→Instr.fill place cs.toArray parts=some cs'.toArray
  |[],cs,cs',h=>by simp [fillL] at h; simp [Instr.fill,h]
  |(i,v) :: r,cs,cs',h=>by
    simp only [fillL] at h
    split at h
    · rename_i off size hp
      split at h
      · rename_i h1 h2
        have e1:=Nat.eq_of_beq_eq_true h1
        have e2:=Nat.le_of_ble_eq_true h2
        have ih:=fill_of_fillL place r _ cs' h
        have hs:v.cells.size=size:=by rw [← e1]; simp
        have hf:=foldl_upd off v.cells.toList 0 cs (by simp [hs]; omega)
        rw [Instr.fill,hp]
        simp only [hs,ne_eq,not_true_eq_false,decide_false,Bool.false_or,List.size_toArray]
        rw [if_neg (by simp; omega)]
        simp only [Nat.add_zero] at hf
        have hz:v.cells.zipIdx.foldl (fun (a:Array Value) (p:Value × Nat)=>a.setIfInBounds (off + p.2) p.1) cs.toArray=(upd cs off v.cells.toList).toArray:=by
          rw [← hf,← Array.foldl_toList]
          simp
        exact (congrArg (fun z=>Instr.fill place z r) hz).trans ih
      · cases h
    · cases h
def ovp (ρ:Env):List (Nat × Operand)→Option (List (Nat × Value))
  |[]=>some []
  |(i,x) :: r=>match ov ρ x,ovp ρ r with
    |some v,some l=>some ((i,v) :: l)
    |_,_=>none
def ovs (ρ:Env):List Operand→Option (List Value)
  |[]=>some []
  |x :: r=>match ov ρ x,ovs ρ r with
    |some v,some l=>some (v :: l)
    |_,_=>none
theorem Fits.ovp {s:St} {a:Act} (h:Fits n s a):∀ {xs:List (Nat × Operand)} {vs:List (Nat × Value)},ovp s.ρ xs=some vs→xs.map (fun p=>(p.1,a.eval p.2))=vs
  |[],vs,e=>by simp [Gw.ovp] at e; simp [e]
  |(i,x) :: r,vs,e=>by
    simp only [Gw.ovp] at e
    split at e
    · rename_i v l h1 h2
      simp only [Option.some.injEq] at e
      subst e
      simp [h.ov h1,Fits.ovp h h2]
    · cases e
theorem Fits.ovs {s:St} {a:Act} (h:Fits n s a):∀ {xs:List Operand} {vs:List Value},ovs s.ρ xs=some vs→xs.map a.eval=vs
  |[],vs,e=>by simp [Gw.ovs] at e; simp [e]
  |x :: r,vs,e=>by
    simp only [Gw.ovs] at e
    split at e
    · rename_i v l h1 h2
      simp only [Option.some.injEq] at e
      subst e
      simp [h.ov h1,Fits.ovs h h2]
    · cases e
theorem mapM_places {fs:List Field} {pl:List (Nat × Nat)} (h:fs.mapM (fun f=>(P.info? f.type).map fun i=>(f.offset,i.size))=some pl) (w:World) :
    (fs.mapM (m:=Sem) fun f=>do pure (f.offset,← sizeOf f.type)).run P w = .ok pl w:=by
  induction fs generalizing pl with
  |nil=>simp at h; subst h; simp [Sem.run]
  |cons f fs ih =>
    rw [List.mapM_cons] at h ⊢
    cases hi:P.info? f.type with
    |none=>simp [hi] at h
    |some ii =>
      cases hr:fs.mapM (fun f=>(P.info? f.type).map fun i=>(f.offset,i.size)) with
      |none=>simp [hi,hr] at h
      |some l =>
        simp [hi,hr] at h
        subst h
        have h1:(sizeOf f.type).run P w = .ok ii.size w:=by simp [sizeOf,typeInfo,hi]
        simp only [Sem.run_bind,h1,Result.andThen_ok,Sem.run_pure,ih hr]
/-! a slice that is written out -/
theorem append_foot {w:World} (t ty e:TypeId) (i:TypeInfo) (z:Value) (size bytes:Nat) (ht:P.underlying t=some (.slice e)) (hi:P.info? e=some i) (hz:i.zero=some z)
    (hsize:i.size=size) (hby:i.bytes=bytes) (v:Value) (n0:Nat) (xs:List Value) (hown:w.ownsRow 0 e size v n0 xs)
    (a:Addr) (m0 c:Nat) (news:List Value) (hl:news.length=m0 * size) (hnews:∀ j u,news[j]? = some u→w.cell? (a.add j)=some u) (h1:∀ u ∈ news,u.oneCell'=true)
    (h63:n0 + m0 ≤ maxLen) (hbytes:(n0 + m0) * bytes ≤ 140737488355328) {v':Value} {w':World} (hr:(Builtin.append_ #[t,t] ty #[v,.slice (some a) m0 c]).run P w = .ok v' w')
    (b:Nat) (hb:v'.ownBlock=some b):v.ownBlock=some b∨w.heap.size ≤ b:=by
  subst hsize
  subst hby
  have hsmall:n0 + m0 ≤ 9223372036854775807:=by simp only [maxLen] at h63; omega
  rcases hown.2 with ⟨rfl,rfl⟩|⟨g,cap,cur,rfl,hbg,hg,hnc,hcm,hcs,htake⟩
  · by_cases hm:m0=0
    · subst hm
      have hn:news=[]:=List.eq_nil_of_length_eq_zero (by simpa using hl)
      subst hn
      simp [Builtin.append_,run_underlying ht,sizeOf,typeInfo,hi,Builtin.lenOf,Builtin.firstCells,loadCells,loadCellsFrom] at hr
      obtain ⟨rfl,_⟩:=hr
      simp [Value.ownBlock] at hb
    · have h:=run_append_nil (P:=P) w t ty e i z ht hi hz a m0 c news hl hnews (by omega) (by omega) (by have hb:=hbytes; simp only [Nat.zero_add] at hb; omega)
      rw [h] at hr
      simp only [Result.ok.injEq] at hr
      rw [← hr.1] at hb
      simp [Value.ownBlock] at hb
      exact .inr (by omega)
  · by_cases hroom:n0 + m0 ≤ cap
    · have hfit:n0 * i.size + news.length ≤ cur.size:=by rw [hl,hcs,← Nat.add_mul]; exact Nat.mul_le_mul_right _ hroom
      have h:=run_append_room (P:=P) w t ty e i ht hi g n0 cap cur hg a m0 c news hl hnews h1 hroom hfit
      rw [h] at hr
      simp only [Result.ok.injEq] at hr
      rw [← hr.1] at hb
      exact .inl hb
    · have holds:∀ j u,xs[j]? = some u→w.cell? ((⟨g,0,none⟩:Addr).add j)=some u:=hown.cells (g:=g) rfl
      have h:=run_append_grow (P:=P) w t ty e i z ht hi hz ⟨g,0,none⟩ n0 cap xs hown.1 holds a m0 c news hl hnews (by omega) (by omega) (growslice_fits (by omega) hbytes)
      rw [h] at hr
      simp only [Result.ok.injEq] at hr
      rw [← hr.1] at hb
      simp [Value.ownBlock] at hb
      exact .inr (by omega)
/-! append to a row of the run's own -/
/-! guards -/
def putU (dst:Option Nat) (ρ:Env):Env:=match dst with
  |some d=>(d,undef) :: ρ
  |none=>ρ
def dOk (dst:Option Nat) (n:Nat):Bool:=match dst with
  |some d=>Nat.blt d n
  |none=>true
/-! calls -/
def callable (P:Program) (f:FuncId):Bool:=match P.funcs[f]? with
  |some fn=>fn.body.isSome && !(fn.name == "runtime.NumGoroutine")
  |none=>false
def Ret (Q:Value→Mem→Own→Prop):Ending→Mem→Own→Prop
  | .returned v,m,μ=>Q v m μ
  |_,_,_=>False
/-! a function's body -/
def argEnv:Nat→List Value→Env
  |_,[]=>[]
  |i,v :: r=>(i,v) :: argEnv (i + 1) r
/-- what is owned may be known for good, or forgotten, as the run ends -/
def Fin (m:Mem) (μ:Own) (Q:Mem→Own→Prop):Prop:=∀ E w,Good E w m μ→∃ m' μ',Good E w m' μ'∧Q m' μ'
/-- the cells of a slice that is known for good -/
def RowAt (m:Mem) (a:Option Addr) (xs:List Value):Prop:=xs=[]∨∃ b,a=some ⟨b,0,none⟩∧RdN m b 0 xs
theorem RowAt.mono {m m':Mem} {a:Option Addr} {xs:List Value} (h:RowAt m a xs) (hle:Mem.le m m'):RowAt m' a xs:=by
  rcases h with h|⟨b,h1,h2⟩
  · exact .inl h
  · exact .inr ⟨b,h1,h2.mono hle⟩
/-- what a result's variable holds -/
inductive ResIs (P:Program) (s:St):ResultVar→Value→Prop where
  |tmp {t:Nat} {v:Value}:eget s.ρ t=some v→ResIs P s (.tmp t) v
  |cell {t q b off c:Nat} {T T':TypeId} {ag:Bool} {cs:List Value} {v:Value}:eget s.ρ t=some (.pointer (some ⟨b,off,none⟩))→s.μ[q]? = some (bx b T' cs)→tk P T=some (ag,c)→loadV ag cs off c=some v→ResIs P s (.cell t T) v
inductive ResAre (P:Program) (s:St):List ResultVar→List Value→Prop where
  |nil:ResAre P s [] []
  |cons {r:ResultVar} {v:Value} {rs:List ResultVar} {vs:List Value}:ResIs P s r v→ResAre P s rs vs→ResAre P s (r :: rs) (v :: vs)
def tup:List Value→Value
  |[v]=>v
  |vs=>.tuple vs.toArray
def resM (tmps:Array Value):ResultVar→Sem Value
  | .tmp t=>pure (tmps.getD t undef)
  | .cell x t=>do loadVar t (← asAddr (tmps.getD x undef))
def Kbody (P:Program) (fn:Func) (Post:Ending→Mem→Own→Prop):Exit→St→Prop
  | .normal,s | .ret,s=>s.D=[]∧∃ vs,ResAre P s fn.results.toList vs∧Fin s.m s.μ (Post (.returned (tup vs)))
  | .panic ch,s=>s.D=[]∧Fin s.m s.μ (Post (.panicked ch))
  |_,_=>False
/-! callees that hand out nothing new -/
theorem Good.forget {w:World} {m':Mem} (h:Good E w m' μ) (hle:Mem.le m m') (hm:Mem.le E.m m):Good E w m μ :=
  ⟨h.os,h.tape,h.output,h.size,h.keep,fun b o e=>h.sub b o (hle b o e),hm,fun b o e=>h.fresh b o (hle b o e),h.holds,fun r hr b hb=>⟨(h.feet r hr b hb).1,by
    cases e:m b with
    |none=>rfl
    |some o =>
      have:=hle b o e
      rw [(h.feet r hr b hb).2] at this
      cases this⟩,h.apart⟩
theorem Cspec.forget {f:FuncId} {args:Array Value} {Q:Value→Own→Prop} (h:Cspec P f args m μ (Ret fun v _ μ'=>Q v μ')):Cspec P f args m μ (Ret fun v m' μ'=>Q v μ'∧m'=m):=fun w hg =>
  (h w hg).mono fun e w' ⟨m',μ',hg',hq⟩=>by
    cases e with
    |returned v=>exact ⟨m,μ',hg'.forget hg'.mem (Mem.le.refl m),hq,rfl⟩
    |panicked c=>exact hq.elim
    |outgrown=>exact hq.elim
/-- a function that answers one value and leaves memory as it was -/
def Scal (P:Program) (f:FuncId) (args:Array Value) (m:Mem) (v:Value):Prop:=Cspec P f args m [] (Ret fun u m' _=>u=v∧m'=m)
end
end Go.Gw
namespace Go.Gw
open Go
def osl:Operand→List Nat
  | .tmp t=>[t]
  |_=>[]
def gsl (ops:Array Oper):Option (Nat × Bool)→List Nat
  |some (j,_)=>match (ops[j]?).bind (·.dst) with
    |some t=>[t]
    |none=>[]
  |none=>[]
/-- the slots that an operation looks at -/
def looks (ops:Array Oper) (o:Oper):List Nat:=o.op.operands.toList.flatMap osl ++ gsl ops o.guard
/-- what must be carried out ahead of it -/
def deps (o:Oper):List Nat:=(o.after.toList.filter (Region.binds .any)).map (·.on)
def statPair (ops:Array Oper) (i:Nat) (o:Oper) (k:Nat):Bool :=
  match ops[k]? with
  |none=>true
  |some o'=>match o'.dst with
    |none=>true
    |some d=>if k=i then !(looks ops o).contains d else (!(looks ops o).contains d || (deps o).contains k) && !(o.dst == some d)
def statOne (ops:Array Oper) (i:Nat):Bool :=
  match ops[i]? with
  |none=>true
  |some o=>(deps o).all (fun x=>Nat.blt x i) && (List.range ops.size).all (statPair ops i o)
def statOk (ops:Array Oper):Bool:=(List.range ops.size).all (statOne ops)
theorem stat_one {ops:Array Oper} (h:statOk ops=true) {i:Nat} {o:Oper} (ho:ops[i]? = some o):(∀ x ∈ deps o,x < i)∧∀ k o' d,ops[k]? = some o'→o'.dst=some d →
    (k=i→d ∉ looks ops o)∧(k ≠ i→(d ∈ looks ops o→k ∈ deps o)∧o.dst ≠ some d):=by
  have hi:i < ops.size:=(Array.getElem?_eq_some_iff.1 ho).1
  have h1:=List.all_eq_true.1 h i (List.mem_range.2 hi)
  unfold statOne at h1
  rw [ho] at h1
  simp only [Bool.and_eq_true] at h1
  refine ⟨fun x hx=>by simpa [Nat.blt_eq] using List.all_eq_true.1 h1.1 x hx,fun k o' d hk hd=>?_⟩
  have hk':k < ops.size:=(Array.getElem?_eq_some_iff.1 hk).1
  have h2:=List.all_eq_true.1 h1.2 k (List.mem_range.2 hk')
  unfold statPair at h2
  rw [hk] at h2
  simp only [hd] at h2
  refine ⟨fun e=>?_,fun e=>?_⟩
  · rw [if_pos e] at h2
    simpa using h2
  · rw [if_neg e] at h2
    simp only [Bool.and_eq_true,Bool.or_eq_true,Bool.not_eq_true',beq_eq_false_iff_ne] at h2
    refine ⟨fun hm=>?_,h2.2⟩
    rcases h2.1 with h3|h3
    · exact absurd hm (by simpa using h3)
    · simpa using h3
structure Pn where
  i:Nat
  d:Nat
  v:Value
  o:Oper
  ρo:Env
def Evals (P:Program) (ops:Array Oper) (o:Oper) (a:Act) (w:World) (v:Value):Prop :=
  (Region.wanted o (yielded ops a.tmps)=true→(execOp a.eval o).run P w = .ok (.value v) w)∧(Region.wanted o (yielded ops a.tmps)=false→v=undef)
def PvP (P:Program) (n:Nat) (ops:Array Oper) (o:Oper) (ρ:Env) (v:Value):Prop:=∀ w a,FitsE n ρ a→Evals P ops o a w v
def PvL (E:Entry) (P:Program) (n:Nat) (ops:Array Oper) (o:Oper) (ρ:Env) (m:Mem) (μ:Own) (v:Value):Prop:=∀ w a,Good E w m μ→FitsE n ρ a→Evals P ops o a w v
structure PnOk (ops:Array Oper) (n:Nat) (L:List Nat) (ρ:Env) (p:Pn):Prop where
  op:ops[p.i]? = some p.o
  dst:p.o.dst=some p.d
  lt:p.d < n
  val:eget ρ p.d=some p.v
  env:∀ t u,eget p.ρo t=some u→eget ρ t=some u∧t ∈ looks ops p.o
  dep:∀ x ∈ deps p.o,x ∈ L
structure AInv (E:Entry) (P:Program) (n:Nat) (ops:Array Oper) (L:List Nat) (pp pl:List Pn) (s:St) (A:Array Bool) (a:Act) (w:World):Prop where
  good:Good E w s.m s.μ
  size:A.size=ops.size
  sub:∀ i,i < ops.size→A.getD i true=true→i ∈ L
  pend:∀ i ∈ L,i < ops.size→A.getD i true=false→∃ p ∈ pp ++ pl,p.i=i
  tsz:a.tmps.size=n
  dfr:a.defers=s.D
  fit:∀ t v,eget s.ρ t=some v→(∀ p ∈ pp ++ pl,A.getD p.i true=false→p.d ≠ t)→a.tmps[t]? = some v
  okp:∀ p ∈ pp ++ pl,PnOk ops n L s.ρ p
  evp:∀ p ∈ pp,PvP P n ops p.o p.ρo p.v
  evl:∀ p ∈ pl,PvL E P n ops p.o p.ρo s.m s.μ p.v
  clo:∀ i o,ops[i]? = some o→A.getD i true=true→∀ x ∈ deps o,A.getD x true=true
def cnt (ops:Array Oper) (A:Array Bool):Nat:=(List.range ops.size).countP fun i=>!A.getD i true
def XA (E:Entry) (P:Program) (n:Nat) (ops:Array Oper) (L:List Nat) (pp pl:List Pn) (s:St) (K:Exit→St→Prop):Prop :=
  ∀ fuel A a w,AInv E P n ops L pp pl s A a w→cnt ops A ≤ fuel→wpAny P .any ops (Lift E n K) fuel A a w
section
variable {E:Entry} {P:Program} {n:Nat} {K:Exit→St→Prop} {ops:Array Oper} {L:List Nat} {pp pl:List Pn} {s:St} {A:Array Bool} {a:Act} {w:World}
theorem mem_ready {i:Nat} (h:i ∈ Region.ready .any ops A):i < ops.size∧A.getD i true=false∧∃ o,ops[i]? = some o∧∀ x ∈ deps o,A.getD x false=true:=by
  unfold Region.ready at h
  rw [List.mem_filter] at h
  obtain ⟨h1,h2⟩:=h
  simp only [Bool.and_eq_true,Bool.not_eq_true'] at h2
  refine ⟨List.mem_range.1 h1,h2.1,?_⟩
  cases ho:ops[i]? with
  |none=>simp [ho] at h2
  |some o =>
    refine ⟨o,rfl,fun x hx=>?_⟩
    simp only [ho,Option.map_some,Option.getD_some] at h2
    unfold deps at hx
    obtain ⟨e,he,rfl⟩:=List.mem_map.1 hx
    rw [List.mem_filter] at he
    have:=Array.all_eq_true'.1 h2.2 e (by simpa using he.1)
    simpa [he.2] using this
theorem ready_ne (hst:statOk ops=true) (hA:A.size=ops.size) {i:Nat} (hi:i < ops.size) (hf:A.getD i true=false):Region.ready .any ops A ≠ []:=by
  induction i using Nat.strongRecOn with
  |_ i ih =>
    obtain ⟨o,ho⟩:∃ o,ops[i]? = some o:=⟨_,Array.getElem?_eq_getElem hi⟩
    by_cases hd:∀ x ∈ deps o,A.getD x false=true
    · intro e
      have:i ∈ Region.ready .any ops A:=by
        unfold Region.ready
        rw [List.mem_filter]
        refine ⟨List.mem_range.2 hi,?_⟩
        simp only [hf,Bool.not_false,Bool.true_and,ho,Option.map_some,Option.getD_some]
        refine Array.all_eq_true'.2 fun e' he'=>?_
        by_cases hb:Region.binds .any e'=true
        · have:=hd e'.on (by unfold deps; exact List.mem_map.2 ⟨e',List.mem_filter.2 ⟨by simpa using he',hb⟩,rfl⟩)
          simp [this]
        · simp [hb]
      rw [e] at this
      cases this
    · simp only [Classical.not_forall] at hd
      obtain ⟨x,hx,hxf⟩:=hd
      have hlt:=(stat_one hst ho).1 x hx
      refine ih x hlt (by omega) ?_
      have hx':x < A.size:=by omega
      simp only [Array.getD_eq_getD_getElem?,Array.getElem?_eq_getElem hx',Option.getD_some] at hxf ⊢
      simpa using hxf
theorem cnt_set (hA:A.size=ops.size) {i:Nat} (hi:i < ops.size) (hf:A.getD i true=false) {fuel:Nat} (h:cnt ops A ≤ fuel + 1):cnt ops (A.setIfInBounds i true) ≤ fuel:=by
  have key:∀ (l:List Nat),l.Nodup→i ∈ l→l.countP (fun j=>!(A.setIfInBounds i true).getD j true) + 1 ≤ l.countP (fun j=>!A.getD j true):=by
    intro l
    induction l with
    |nil=>intro _ h; cases h
    |cons x l ih =>
      intro hn hm
      rw [List.nodup_cons] at hn
      have hle:∀ l:List Nat,l.countP (fun j=>!(A.setIfInBounds i true).getD j true) ≤ l.countP (fun j=>!A.getD j true):=fun l=>by
        apply List.countP_mono_left
        intro j _ hj
        simp only [Array.getD_eq_getD_getElem?,Array.getElem?_setIfInBounds,Bool.not_eq_true'] at hj ⊢
        split at hj
        · split at hj <;> simp at hj
        · exact hj
      rw [List.countP_cons,List.countP_cons]
      by_cases hx:x=i
      · subst hx
        have h1:(A.setIfInBounds x true).getD x true=true:=by
          simp [Array.getD_eq_getD_getElem?,Array.getElem?_setIfInBounds,hA,hi]
        simp only [h1,hf,Bool.not_true,Bool.not_false]
        have:=hle l
        simp only [Bool.false_eq_true,if_false,if_true]
        omega
      · have h2:(A.setIfInBounds i true).getD x true=A.getD x true:=by
          simp [Array.getD_eq_getD_getElem?,Array.getElem?_setIfInBounds,Ne.symm hx]
        rw [h2]
        rcases List.mem_cons.1 hm with h3|h3
        · exact absurd h3.symm hx
        · have:=ih hn.2 h3
          omega
  have:=key (List.range ops.size) List.nodup_range (List.mem_range.2 hi)
  unfold cnt at h ⊢
  omega
theorem getD_true_of {i:Nat} (hA:A.size=ops.size) (hi:i < ops.size) (h:A.getD i false=true):A.getD i true=true:=by
  have hi':i < A.size:=by omega
  simp only [Array.getD_eq_getD_getElem?,Array.getElem?_eq_getElem hi',Option.getD_some] at h ⊢
  exact h
theorem getD_set {i j:Nat} (hA:A.size=ops.size) (hi:i < ops.size):(A.setIfInBounds i true).getD j true=if j=i then true else A.getD j true:=by
  simp only [Array.getD_eq_getD_getElem?,Array.getElem?_setIfInBounds]
  by_cases h:i=j
  · subst h; simp [hA,hi]
  · simp [h,Ne.symm h]
/-- a pending operation is carried out -/
theorem getD_up {A:Array Bool} {x:Nat} (h:A.getD x false=true):A.getD x true=true:=by
  rw [Array.getD_eq_getD_getElem?] at h ⊢
  cases e:A[x]? with
  |none=>rw [e] at h; cases h
  |some b=>rw [e] at h; exact h
theorem clo_set (h:∀ i o,ops[i]? = some o→A.getD i true=true→∀ x ∈ deps o,A.getD x true=true) (hA:A.size=ops.size) {j:Nat} {o:Oper} (hj:j < ops.size) (ho:ops[j]? = some o) (hd:∀ x ∈ deps o,A.getD x false=true) :
    ∀ i o,ops[i]? = some o→(A.setIfInBounds j true).getD i true=true→∀ x ∈ deps o,(A.setIfInBounds j true).getD x true=true:=by
  intro i q hq hi x hx
  have hup:A.getD x true=true→(A.setIfInBounds j true).getD x true=true:=fun e=>by
    rw [getD_set hA hj]
    split
    · rfl
    · exact e
  rw [getD_set hA hj] at hi
  by_cases hij:i=j
  · subst hij
    rw [ho] at hq
    cases Option.some.inj hq
    exact hup (getD_up (hd x hx))
  · rw [if_neg hij] at hi
    exact hup (h i q hq hi x hx)
theorem AInv.exec (hst:statOk ops=true) (h:AInv E P n ops L pp pl s A a w) {p:Pn} (hp:p ∈ pp ++ pl) (hi:p.i < ops.size) (hf:A.getD p.i true=false) (hdep:∀ x ∈ deps p.o,A.getD x false=true) (hL:p.i ∈ L) :
    Evals P ops p.o a w p.v∧AInv E P n ops L pp pl s (A.setIfInBounds p.i true) (a.put (some p.d) p.v) w:=by
  have hok:=h.okp p hp
  have hfe:FitsE n p.ρo a:=⟨h.tsz,fun t u ht=>by
    obtain ⟨h1,h2⟩:=hok.env t u ht
    refine h.fit t u h1 fun p' hp' hf' e=>?_
    have hok':=h.okp p' hp'
    have hs:=(stat_one hst hok.op).2 p'.i p'.o p'.d hok'.op hok'.dst
    by_cases hpi:p'.i=p.i
    · exact hs.1 hpi (e ▸ h2)
    · have hd:=(hs.2 hpi).1 (e ▸ h2)
      have h3:=hdep _ hd
      have hlt:p'.i < ops.size:=(Array.getElem?_eq_some_iff.1 hok'.op).1
      rw [getD_true_of h.size hlt h3] at hf'
      cases hf'⟩
  refine ⟨?_,?_⟩
  · rcases List.mem_append.1 hp with h1|h1
    · exact h.evp p h1 w a hfe
    · exact h.evl p h1 w a h.good hfe
  · refine ⟨h.good,by simp [h.size],fun i hi' e=>?_,fun i hi' hlt e=>?_,by simp [Act.put,h.tsz],h.dfr,fun t v ht hne=>?_,h.okp,h.evp,h.evl,clo_set h.clo h.size hi hok.op hdep⟩
    · rw [getD_set h.size hi] at e
      by_cases hii:i=p.i
      · rw [hii]; exact hL
      · rw [if_neg hii] at e; exact h.sub i hi' e
    · rw [getD_set h.size hi] at e
      by_cases hii:i=p.i
      · rw [if_pos hii] at e; cases e
      · rw [if_neg hii] at e; exact h.pend i hi' hlt e
    · have hd':p.d < a.tmps.size:=by rw [h.tsz]; exact hok.lt
      by_cases htd:p.d=t
      · subst htd
        rw [hok.val] at ht
        cases ht
        simp [Act.put,Array.getElem?_setIfInBounds,hd']
      · simp only [Act.put,Array.getElem?_setIfInBounds,htd,if_false]
        refine h.fit t v ht fun p' hp' hf'=>?_
        by_cases hpi:p'.i=p.i
        · have hok':=h.okp p' hp'
          have e1:=hok'.op
          rw [hpi,hok.op] at e1
          have e3:p.o=p'.o:=Option.some.inj e1
          have e2:=hok'.dst
          rw [← e3,hok.dst] at e2
          have e4:p.d=p'.d:=Option.some.inj e2
          rw [← e4]
          exact htd
        · refine hne p' hp' ?_
          rw [getD_set h.size hi,if_neg hpi]
          exact hf'
/-! the rules -/
def eonly (ls:List Nat):Env→Env
  |[]=>[]
  |(k,v) :: r=>match ls.elem k with
    |true=>(k,v) :: eonly ls r
    |false=>eonly ls r
def ehide (ls:List Nat):Env→Env
  |[]=>[]
  |(k,v) :: r=>match ls.elem k with
    |true=>ehide ls r
    |false=>(k,v) :: ehide ls r
theorem yields {ρ:Env} {g t:Nat} {b:Bool} (hj:(ops[g]?).bind (·.dst)=some t) (ht:eget ρ t=some (.bool b)) {a:Act} (hf:FitsE n ρ a):yielded ops a.tmps g=some b:=by
  unfold yielded
  rw [hj]
  simp only [Option.bind_some,hf.get t _ ht]
def putO (dst:Option Nat) (v:Value) (ρ:Env):Env:=match dst with
  |some d=>(d,v) :: ρ
  |none=>ρ
def Keff (E:Entry) (P:Program) (n:Nat) (ops:Array Oper) (e:Nat) (dst:Option Nat) (ρ0:Env) (L:List Nat) (pp pl:List Pn) (pre:Env) (K:Exit→St→Prop):Exit→St→Prop
  | .normal,s=>(∃ v,s.ρ=putO dst v ρ0)∧(∀ p ∈ pl,PvL E P n ops p.o p.ρo s.m s.μ p.v)∧XA E P n ops (e :: L) pp pl ⟨pre ++ s.ρ,s.m,s.μ,s.D⟩ K
  |ex,s=>K ex s
def preOf (l:List Pn):Env:=l.map fun p=>(p.d,p.v)
/-- those that need not be carried out ahead of it -/
def stay (cl:List Nat) (l:List Pn):List Pn:=l.filter fun p=>!(cl.elem p.i)
/-- those that are sure to have been carried out ahead of it -/
def clOk (ops:Array Oper) (o:Oper):List Nat→List Nat→Bool
  |_,[]=>true
  |acc,x :: r=>((deps o).elem x || acc.any (fun y=>match ops[y]? with
      |some q=>(deps q).elem x
      |none=>false)) && clOk ops o (x :: acc) r
def onlyIn (ops:Array Oper) (L:List Nat) (es:List Nat):Bool :=
  (List.range ops.size).all fun j=>L.elem j || es.elem j || match ops[j]? with
    |some o=>!((deps o).all L.elem)
    |none=>true
end
end Go.Gw

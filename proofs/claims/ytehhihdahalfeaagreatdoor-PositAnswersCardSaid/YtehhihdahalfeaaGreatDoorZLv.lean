/-
  Rows of the run's own: out of a block that was written out; looked at in the middle of a run. Plain lemmas.
-/
import Derived.Test.YtehhihdahalfeaaGreatDoorZGwa
import Derived.Lib.Strings
set_option linter.unusedVariables false
set_option linter.unusedSimpArgs false
set_option linter.unnecessarySimpa false
namespace Go.Gw
open Go
section
variable {E:Entry} {P:Program} {n:Nat} {K:Exit→St→Prop} {ρ:Env} {m:Mem} {μ:Own} {D:List Deferred} {ops:Array Oper} {rest:List Oper}
  {d:Nat} {ty:TypeId} {pos:String} {after:Array Edge}
variable {dst:Option Nat} {gd:Option (Nat × Bool)} {T T':TypeId} {x y z:Operand} {i j:Int}
end
end Go.Gw
namespace Go.Gw
open Go
/-- a string's value, by its bytes -/
abbrev str (l:List UInt8):Value:=.string ⟨l.toArray⟩
theorem str_of (s:ByteArray):Value.string s=str s.data.toList:=by cases s; simp
theorem ba_toList (l:List UInt8):(⟨l.toArray⟩:ByteArray).toList=l:=by rw [Lib.toList_data]
theorem ba_size (l:List UInt8):(⟨l.toArray⟩:ByteArray).size=l.length:=by simp [ByteArray.size]
theorem ba_append (a b:List UInt8):(⟨a.toArray⟩:ByteArray) ++ (⟨b.toArray⟩:ByteArray)=⟨(a ++ b).toArray⟩:=by
  apply ByteArray.ext
  simp
theorem ba_extract (l:List UInt8) (i j:Nat):(⟨l.toArray⟩:ByteArray).extract i j=⟨((l.drop i).take (j - i)).toArray⟩:=by
  apply ByteArray.ext
  simp [List.extract_eq_take_drop]
section
variable {E:Entry} {P:Program} {n:Nat} {ρ:Env} {m:Mem} {μ:Own} {ty:TypeId} {pos:String} {after:Array Edge}
variable {dst:Option Nat} {gd:Option (Nat × Bool)} {T T':TypeId} {x y z:Operand} {i j:Int} {a b:List UInt8}
end
end Go.Gw
namespace Go.Gw
open Go
inductive Lv where
  |mk (k n:Int) (ls:List Lv)
mutual
theorem Lv.ind {P:Lv→Prop} (h:∀ k n ls,(∀ l ∈ ls,P l)→P (.mk k n ls)):∀ l,P l
  | .mk k n ls=>h k n ls (Lv.inds h ls)
theorem Lv.inds {P:Lv→Prop} (h:∀ k n ls,(∀ l ∈ ls,P l)→P (.mk k n ls)):∀ ls:List Lv,∀ l ∈ ls,P l
  |[],_,hl=>by cases hl
  |x :: r,l,hl=>by
    rcases List.mem_cons.1 hl with e|e
    · rw [e]; exact Lv.ind h x
    · exact Lv.inds h r l e
end
mutual
def LvV (m:Mem):Lv→List Value→Prop
  | .mk k n ls,cs=>i64 k∧i64 n∧∃ a cap,cs=[.int .i64 k,.int .i64 n,.slice a ls.length cap]∧(ls.length ≤ cap∧ls.length ≤ 3518437208780)∧(ls=[]∨∃ b off,a=some ⟨b,off,none⟩∧LvsV m ls b off)
def LvsV (m:Mem):List Lv→Nat→Nat→Prop
  |[],_,_=>True
  |l :: r,b,off=>(∃ cs,RdN m b off cs∧LvV m l cs)∧LvsV m r b (off + 3)
end
mutual
theorem LvV.mono {m m':Mem} (hle:Mem.le m m'):∀ {l:Lv} {cs:List Value},LvV m l cs→LvV m' l cs
  | .mk k n ls,cs,h=>by
    simp only [LvV] at h ⊢
    obtain ⟨h1,h2,a,cap,h3,h4,h5⟩:=h
    refine ⟨h1,h2,a,cap,h3,h4,?_⟩
    rcases h5 with h5|⟨b,off,h6,h7⟩
    · exact .inl h5
    · exact .inr ⟨b,off,h6,LvsV.mono hle h7⟩
theorem LvsV.mono {m m':Mem} (hle:Mem.le m m'):∀ {ls:List Lv} {b off:Nat},LvsV m ls b off→LvsV m' ls b off
  |[],_,_,_=>trivial
  |l :: r,b,off,h=>by
    simp only [LvsV] at h ⊢
    obtain ⟨⟨cs,h1,h2⟩,h3⟩:=h
    exact ⟨⟨cs,h1.mono hle,LvV.mono hle h2⟩,LvsV.mono hle h3⟩
end
theorem LvsV.at {m:Mem}:∀ {ls:List Lv} {b off i:Nat} {l:Lv},LvsV m ls b off→ls[i]? = some l→∃ cs,RdN m b (off + i * 3) cs∧LvV m l cs
  |[],_,_,_,_,_,h=>by simp at h
  |x :: r,b,off,0,l,h,e=>by
    simp only [List.getElem?_cons_zero,Option.some.injEq] at e
    subst e
    simpa [LvsV] using h.1
  |x :: r,b,off,i + 1,l,h,e=>by
    simp only [List.getElem?_cons_succ] at e
    simp only [LvsV] at h
    have:=LvsV.at h.2 e
    have he:off + 3 + i * 3=off + (i + 1) * 3:=by omega
    rwa [he] at this
/- the plain function of level.count -/
mutual
def countF:Lv→Int→Int
  | .mk _ _ ls,left=>countFs ls (left - 1)
def countFs:List Lv→Int→Int
  |[],left=>left
  |l :: r,left=>if left < 0 then left else countFs r (countF l left)
end
mutual
theorem countF_ge:∀ (l:Lv) (left:Int),0 ≤ left→-1 ≤ countF l left∧countF l left ≤ left
  | .mk _ _ ls,left,h=>by
    simp only [countF]
    have:=countFs_ge ls (left - 1) (by omega)
    omega
theorem countFs_ge:∀ (ls:List Lv) (left:Int),-1 ≤ left→-1 ≤ countFs ls left∧countFs ls left ≤ left
  |[],left,h=>by simp only [countFs]; omega
  |l :: r,left,h=>by
    simp only [countFs]
    split
    · omega
    · have h1:=countF_ge l left (by omega)
      have h2:=countFs_ge r (countF l left) (by omega)
      omega
end
theorem countFs_neg (ls:List Lv) (left:Int) (h:left < 0):countFs ls left=left:=by
  cases ls <;> simp [countFs,h]
theorem take_snoc' {α:Type} {l:List α} {i:Nat} {x:α} (h:l[i]? = some x):l.take (i + 1)=l.take i ++ [x]:=by
  obtain ⟨h1,h2⟩:=List.getElem?_eq_some_iff.1 h
  rw [List.take_succ_eq_append_getElem h1,h2]
theorem drop_at {α:Type} {l:List α} {i:Nat} {x:α} (h:l[i]? = some x):l.drop i=x :: l.drop (i + 1):=by
  obtain ⟨h1,h2⟩:=List.getElem?_eq_some_iff.1 h
  rw [List.drop_eq_getElem_cons h1,h2]
/- package level: the plain functions -/
def Lv.kind:Lv→Int | .mk k _ _=>k
def Lv.num:Lv→Int | .mk _ n _=>n
def Lv.args:Lv→List Lv | .mk _ _ ls=>ls
def wideF (k:Int):Int:=if k=1∨k=2 then 0 else if k=3 then 1 else if k=4∨k=5 then 2 else -1
def nodesF (l:Lv):Int:=64 - max (countF l 64) (-1)
def nodeF:Lv→Int→Bool
  | .mk k n ls,p=>if (ls.length:Int)=wideF k then (if k=1 then decide (0 ≤ n∧n ≤ 100) else if k=2 then decide (0 ≤ n∧n < p) else decide (n=0)) else false
mutual
def allF:Lv→Int→Bool
  | .mk k n ls,p=>nodeF (.mk k n ls) p && allFs ls p
def allFs:List Lv→Int→Bool
  |[],_=>true
  |l :: r,p=>allF l p && allFs r p
end
def rightF (l:Lv) (p:Int):Bool:=decide (0 ≤ p) && (decide (p ≤ 4) && (decide (nodesF l ≤ 64) && allF l p))
theorem max_def' (a b:Int):(if a < b then b else a)=max a b:=by
  by_cases h:a < b
  · rw [if_pos h]; omega
  · rw [if_neg h]; omega
/-- a level as it lies in memory, taken apart -/
theorem LvV.open {m:Mem} {l:Lv} {cs:List Value} (h:LvV m l cs):∃ k n ls a cap,l = .mk k n ls∧cs=[.int .i64 k,.int .i64 n,.slice a ls.length cap]∧i64 k∧i64 n∧ls.length ≤ 3518437208780 ∧
    (∀ i x,ls[i]? = some x→∃ b off k1 n1 l1 a1 cap1,a=some ⟨b,off,none⟩∧x = .mk k1 n1 l1∧RdN m b (off + i * 3) [.int .i64 k1,.int .i64 n1,.slice a1 l1.length cap1]∧LvV m x [.int .i64 k1,.int .i64 n1,.slice a1 l1.length cap1]):=by
  obtain ⟨k,n,ls⟩:=l
  have h0:=h
  simp only [LvV] at h
  obtain ⟨h1,h2,a,cap,rfl,h4,h5⟩:=h
  refine ⟨k,n,ls,a,cap,rfl,rfl,h1,h2,h4.2,fun i x hx=>?_⟩
  obtain ⟨b,off,rfl,hb⟩:=h5.resolve_left (fun e=>by rw [e] at hx; simp at hx)
  obtain ⟨cc,hrd,hlv⟩:=LvsV.at hb hx
  obtain ⟨k1,n1,l1⟩:=x
  have hlv':=hlv
  simp only [LvV] at hlv'
  obtain ⟨_,_,a1,cap1,rfl,_,_⟩:=hlv'
  exact ⟨b,off,k1,n1,l1,a1,cap1,rfl,rfl,hrd,hlv⟩
def valNode (k n:Int) (vs:List Int) (f:Int→Int):Int :=
  if k=1 then n else if k=2 then f n else if k=3 then vs.getD 0 0 + 1 else if k=5∧vs.getD 1 0=0 then 0 else max (vs.getD 0 0) (vs.getD 1 0)
mutual
def valF:Lv→(Int→Int)→Int
  | .mk k n ls,f=>valNode k n (valFs ls f) f
def valFs:List Lv→(Int→Int)→List Int
  |[],_=>[]
  |l :: r,f=>valF l f :: valFs r f
end
mutual
def sizeL:Lv→Nat
  | .mk _ _ ls=>sizeLs ls + 1
def sizeLs:List Lv→Nat
  |[]=>0
  |l :: r=>sizeL l + sizeLs r
end
theorem sizeLs_at:∀ {ls:List Lv} {i:Nat} {x:Lv},ls[i]? = some x→sizeL x ≤ sizeLs ls
  |[],_,_,h=>by simp at h
  |l :: r,0,x,h=>by simp at h; subst h; simp only [sizeLs]; omega
  |l :: r,i + 1,x,h=>by
    have:=sizeLs_at (ls:=r) (i:=i) (x:=x) (by simpa using h)
    simp only [sizeLs]; omega
theorem size_arg {k n:Int} {ls:List Lv} {i q:Nat} {x:Lv} (h:sizeL (.mk k n ls) ≤ q) (hx:ls[i]? = some x):sizeL x ≤ q:=by
  have:=sizeLs_at hx
  simp only [sizeL] at h; omega
theorem allFs_at:∀ {ls:List Lv} {i:Nat} {x:Lv} {p:Int},allFs ls p=true→ls[i]? = some x→allF x p=true
  |[],_,_,_,_,h=>by simp at h
  |l :: r,0,x,p,h,e=>by simp at e; subst e; simp only [allFs,Bool.and_eq_true] at h; exact h.1
  |l :: r,i + 1,x,p,h,e=>by
    simp only [allFs,Bool.and_eq_true] at h
    exact allFs_at h.2 (by simpa using e)
theorem all_arg {k n p:Int} {ls:List Lv} {i:Nat} {x:Lv} (h:allF (.mk k n ls) p=true) (hx:ls[i]? = some x):allF x p=true:=by
  simp only [allF,Bool.and_eq_true] at h
  exact allFs_at h.2 hx
theorem all_node {k n p:Int} {ls:List Lv} (h:allF (.mk k n ls) p=true):nodeF (.mk k n ls) p=true:=by
  simp only [allF,Bool.and_eq_true] at h
  exact h.1
theorem node_parts {k n p:Int} {ls:List Lv} (h:nodeF (.mk k n ls) p=true) :
    (k=1∧ls=[]∧0 ≤ n∧n ≤ 100)∨(k=2∧ls=[]∧0 ≤ n∧n < p)∨(k=3∧n=0∧∃ x,ls=[x])∨((k=4∨k=5)∧n=0∧∃ x y,ls=[x,y]):=by
  simp only [nodeF] at h
  split at h
  · rename_i hw
    unfold wideF at hw
    by_cases h1:k=1
    · subst h1
      simp at h hw
      exact .inl ⟨rfl,hw,h⟩
    · by_cases h2:k=2
      · subst h2
        simp at h hw
        exact .inr (.inl ⟨rfl,hw,h⟩)
      · rw [if_neg (by omega)] at hw
        simp only [h1,h2,if_false,decide_eq_true_eq] at h
        by_cases h3:k=3
        · subst h3
          simp at hw
          refine .inr (.inr (.inl ⟨rfl,h,?_⟩))
          match ls,hw with
          |[x],_=>exact ⟨x,rfl⟩
          |[],hw=>simp at hw
          |_ :: _ :: _,hw=>simp at hw; omega
        · rw [if_neg h3] at hw
          by_cases h4:k=4∨k=5
          · rw [if_pos h4] at hw
            refine .inr (.inr (.inr ⟨h4,h,?_⟩))
            match ls,hw with
            |[x,y],_=>exact ⟨x,y,rfl⟩
            |[],hw=>simp at hw
            |[_],hw=>simp at hw
            |_ :: _ :: _ :: _,hw=>simp at hw; omega
          · rw [if_neg h4] at hw
            omega
  · cases h
theorem all_param {k n:Int} {ls:List Lv} {p:Int} (h:allF (.mk k n ls) p=true) (hk:k=2):0 ≤ n∧n < p:=by
  rcases node_parts (all_node h) with ⟨h1,_⟩|⟨_,_,h2⟩|⟨h1,_⟩|⟨h1,_⟩ <;> omega
theorem all_succ {k n:Int} {ls:List Lv} {p:Int} (h:allF (.mk k n ls) p=true) (hk:k=3):∃ x,ls=[x]:=by
  rcases node_parts (all_node h) with ⟨h1,_⟩|⟨h1,_⟩|⟨_,_,h2⟩|⟨h1,_⟩
  · omega
  · omega
  · exact h2
  · omega
theorem all_two {k n:Int} {ls:List Lv} {p:Int} (h:allF (.mk k n ls) p=true) (h1:k ≠ 1) (h2:k ≠ 2) (h3:k ≠ 3):∃ x y,ls=[x,y]:=by
  rcases node_parts (all_node h) with ⟨e,_⟩|⟨e,_⟩|⟨e,_⟩|⟨_,_,e⟩
  · omega
  · omega
  · omega
  · exact e
theorem valF_bound (l:Lv):∀ (f:Int→Int),allF l 4=true→(∀ i,0 ≤ i→i < 4→0 ≤ f i∧f i ≤ 1048576)→0 ≤ valF l f∧valF l f ≤ 1048576 + sizeL l:=by
  induction l using Lv.ind with
  |_ k n ls ih =>
    intro f hall hf
    rcases node_parts (all_node hall) with ⟨rfl,rfl,h1⟩|⟨rfl,rfl,h1⟩|⟨rfl,rfl,x,rfl⟩|⟨hk,rfl,x,y,rfl⟩
    · simp [valF,valNode]; omega
    · have:=hf n h1.1 h1.2
      simp [valF,valNode]; omega
    · have:=ih x (by simp) f (all_arg hall (i:=0) rfl) hf
      simp [valF,valFs,valNode,sizeL,sizeLs]; omega
    · have h1:=ih x (by simp) f (all_arg hall (i:=0) rfl) hf
      have h2:=ih y (by simp) f (all_arg hall (i:=1) rfl) hf
      have e1:k ≠ 1:=by omega
      have e2:k ≠ 2:=by omega
      have e3:k ≠ 3:=by omega
      simp only [valF,valFs,valNode,sizeL,sizeLs,e1,e2,e3,if_false,List.getD_cons_zero,List.getD_cons_succ]
      split <;> omega
theorem valF_param {n:Int} {ls:List Lv} {f:Int→Int}:valF (.mk 2 n ls) f=f n:=by simp [valF,valNode]
theorem valF_mk1 {n:Int} {x:Lv} {f:Int→Int}:valF (.mk 3 n [x]) f=valF x f + 1:=by simp [valF,valFs,valNode]
theorem valF_mk2 {k n:Int} {x y:Lv} {f:Int→Int} (h1:¬ k=1) (h2:¬ k=2) (h3:¬ k=3):valF (.mk k n [x,y]) f=if k=5∧valF y f=0 then 0 else max (valF x f) (valF y f):=by simp [valF,valFs,valNode,h1,h2,h3]
/-- a slice of numbers -/
def IntsV (m:Mem) (vs:List Int) (sv:Value):Prop:=∃ a cap,sv = .slice a vs.length cap∧vs.length ≤ cap∧vs.length ≤ 140737488355328∧∀ i v,vs[i]? = some v→∃ b off,a=some ⟨b,off,none⟩∧Rd m b (off + i * 1) (.int .i64 v)
theorem IntsV.mono {m m':Mem} {vs:List Int} {sv:Value} (h:IntsV m vs sv) (hle:Mem.le m m'):IntsV m' vs sv:=by
  obtain ⟨a,cap,h1,h2,h3,h4⟩:=h
  exact ⟨a,cap,h1,h2,h3,fun i v hv=>by obtain ⟨b,off,h5,h6⟩:=h4 i v hv; exact ⟨b,off,h5,h6.mono hle⟩⟩
def clampF (vs:List Int) (i:Int):Int:=match vs[i.toNat]? with
  |some v=>min (max v 0) 1048576
  |none=>0
/-- the first ones of four numbers -/
def clampTo (vs:List Int) (g i:Nat):Int:=if i < g then clampF vs i else 0
def valueF (l:Lv) (vs:List Int):Int:=if rightF l 4=true then valF l (clampF vs) else 0
theorem clampF_bound (vs:List Int) (i:Int):0 ≤ clampF vs i∧clampF vs i ≤ 1048576:=by
  unfold clampF
  split <;> omega
mutual
theorem countF_eq:∀ (l:Lv) (left:Int),0 ≤ left→((sizeL l:Int) ≤ left→countF l left=left - sizeL l)∧(left < (sizeL l:Int)→countF l left = -1)
  | .mk k n ls,left,h=>by
    have e:sizeL (.mk k n ls)=sizeLs ls + 1:=by simp [sizeL]
    have h1:=countFs_eq ls (left - 1) (by omega)
    have e2:countF (.mk k n ls) left=countFs ls (left - 1):=by simp [countF]
    rw [e,e2]
    refine ⟨fun h2=>?_,fun h2=>?_⟩
    · rw [h1.1 (by omega)]; omega
    · by_cases h3:ls=[]
      · subst h3
        simp [sizeLs] at h2
        simp [countFs]
        omega
      · exact h1.2 (by omega) h3
theorem countFs_eq:∀ (ls:List Lv) (left:Int),-1 ≤ left→((sizeLs ls:Int) ≤ left→countFs ls left=left - sizeLs ls)∧(left < (sizeLs ls:Int)→ls ≠ []→countFs ls left = -1)
  |[],left,h=>by simp [countFs,sizeLs]
  |l :: r,left,h=>by
    have hp:1 ≤ sizeL l:=by cases l; simp [sizeL]
    have e:sizeLs (l :: r)=sizeL l + sizeLs r:=by simp [sizeLs]
    rw [e]
    by_cases h0:left < 0
    · have e2:countFs (l :: r) left=left:=by simp [countFs,h0]
      rw [e2]
      exact ⟨fun h2=>by omega,fun _ _=>by omega⟩
    · have e2:countFs (l :: r) left=countFs r (countF l left):=by simp [countFs,h0]
      have h1:=countF_eq l left (by omega)
      rw [e2]
      by_cases h3:(sizeL l:Int) ≤ left
      · rw [h1.1 h3]
        have h4:=countFs_eq r (left - sizeL l) (by omega)
        refine ⟨fun h2=>by rw [h4.1 (by omega)]; omega,fun h2 _=>?_⟩
        by_cases h5:r=[]
        · subst h5
          simp [sizeLs] at h2
          omega
        · exact h4.2 (by omega) h5
      · rw [h1.2 (by omega),countFs_neg _ _ (by omega)]
        exact ⟨fun h2=>by omega,fun _ _=>rfl⟩
end
theorem nodesF_eq (l:Lv):nodesF l=min (sizeL l:Int) 65:=by
  unfold nodesF
  have h:=countF_eq l 64 (by omega)
  by_cases h1:(sizeL l:Int) ≤ 64
  · rw [h.1 h1]; omega
  · rw [h.2 (by omega)]; omega
theorem right_all {l:Lv} {p:Int} (h:rightF l p=true):allF l p=true:=by
  simp only [rightF,Bool.and_eq_true] at h
  exact h.2.2.2
theorem right_size' {l:Lv} {p:Int} (h:rightF l p=true):sizeL l ≤ 64:=by
  simp only [rightF,Bool.and_eq_true,decide_eq_true_eq,nodesF_eq] at h
  omega
theorem right_size {l:Lv} {p:Int} (h:rightF l p=true):sizeL l ≤ 100000:=by
  have:=right_size' h
  omega
/- forms -/
structure Fm where
  num:Int
  off:Nat→Int
def Fm.cells (f:Fm):List Value:=[.int .i64 f.num,.int .i64 (f.off 0),.int .i64 (f.off 1),.int .i64 (f.off 2),.int .i64 (f.off 3)]
def Fm.v (f:Fm):Value:=.agg #[.int .i64 f.num,.int .i64 (f.off 0),.int .i64 (f.off 1),.int .i64 (f.off 2),.int .i64 (f.off 3)]
def Fm.ok (f:Fm) (q:Int):Prop:=(-1 ≤ f.num∧f.num ≤ q)∧∀ j,-1 ≤ f.off j∧f.off j ≤ q
def mixTo (g:Nat) (F G:Nat→Int) (j:Nat):Int:=if j < g then G j else F j
def constF (n:Int):Fm:=⟨n,fun _=>-1⟩
def rise (x:Int):Int:=if x = -1 then -1 else x + 1
def raiseF (f:Fm):Fm:=⟨rise f.num,fun j=>rise (f.off j)⟩
def joinF (f g:Fm):Fm:=⟨max f.num g.num,fun j=>max (f.off j) (g.off j)⟩
def leastTo (f:Fm):Nat→Int
  |0=>f.num
  |g + 1=>if f.off g = -1 then leastTo f g else max (leastTo f g) (f.off g + 1)
def leastF (f:Fm):Int:=leastTo f 4
def offsTo (f g:Fm):Nat→Bool
  |0=>true
  |i + 1=>offsTo f g i && decide (f.off i ≤ g.off i)
def belowF (f g:Fm):Bool:=offsTo f g 4 && decide (f.num ≤ leastF g)
def zeroF (f:Fm):Bool:=decide (f.num=0) && (decide (f.off 0 = -1) && (decide (f.off 1 = -1) && (decide (f.off 2 = -1) && decide (f.off 3 = -1))))
def bit (z n:Int):Int:=z / 2 ^ n.toNat % 2
def paramF (z n:Int):Fm:=if bit z n=0 then ⟨-1,fun j=>if (j:Int)=n then 0 else -1⟩ else constF 0
def formNode (k n:Int) (fs:List Fm) (z:Int):Fm :=
  if k=1 then constF n else if k=2 then paramF z n else if k=3 then raiseF (fs.getD 0 (constF 0)) else if k=5∧zeroF (fs.getD 1 (constF 0))=true then fs.getD 1 (constF 0) else joinF (fs.getD 0 (constF 0)) (fs.getD 1 (constF 0))
mutual
def formF:Lv→Int→Fm
  | .mk k n ls,z=>formNode k n (formFs ls z) z
def formFs:List Lv→Int→List Fm
  |[],_=>[]
  |l :: r,z=>formF l z :: formFs r z
end
theorem formF_mk1 {n:Int} {x:Lv} {z:Int}:formF (.mk 3 n [x]) z=raiseF (formF x z):=by simp [formF,formFs,formNode]
theorem formF_mk2 {k n:Int} {x y:Lv} {z:Int} (h1:¬ k=1) (h2:¬ k=2) (h3:¬ k=3):formF (.mk k n [x,y]) z=if k=5∧zeroF (formF y z)=true then formF y z else joinF (formF x z) (formF y z):=by simp [formF,formFs,formNode,h1,h2,h3]
theorem formF_ok (l:Lv):∀ z:Int,allF l 4=true→(formF l z).ok (100 + sizeL l):=by
  induction l using Lv.ind with
  |_ k n ls ih =>
    intro z hall
    rcases node_parts (all_node hall) with ⟨rfl,rfl,h1⟩|⟨rfl,rfl,h1⟩|⟨rfl,rfl,x,rfl⟩|⟨hk,rfl,x,y,rfl⟩
    · simp [formF,formNode,constF,Fm.ok]; omega
    · have e:formF (.mk 2 n []) z=paramF z n:=by simp [formF,formNode]
      rw [e]
      unfold paramF
      · split
        · refine ⟨by simp; omega,fun j=>?_⟩
          simp only
          split <;> omega
        · exact ⟨by simp [constF]; omega,fun j=>by simp [constF]; omega⟩
    · have h:=ih x (by simp) z (all_arg hall (i:=0) rfl)
      rw [formF_mk1]
      have hs:sizeL (.mk 3 0 [x])=sizeL x + 1:=by simp [sizeL,sizeLs]
      rw [hs]
      refine ⟨?_,fun j=>?_⟩
      · have:=h.1
        simp only [raiseF,rise]
        split <;> omega
      · have:=h.2 j
        simp only [raiseF,rise]
        split <;> omega
    · have hx:=ih x (by simp) z (all_arg hall (i:=0) rfl)
      have hy:=ih y (by simp) z (all_arg hall (i:=1) rfl)
      rw [formF_mk2 (by omega) (by omega) (by omega)]
      have hs:sizeL (.mk k 0 [x,y])=sizeL x + sizeL y + 1:=by simp [sizeL,sizeLs]
      rw [hs]
      split
      · exact ⟨by have:=hy.1; omega,fun j=>by have:=hy.2 j; omega⟩
      · refine ⟨by have:=hx.1; have:=hy.1; simp only [joinF]; omega,fun j=>by have:=hx.2 j; have:=hy.2 j; simp only [joinF]; omega⟩
def leqTo (a b:Lv):Nat→Bool
  |0=>true
  |z + 1=>leqTo a b z && belowF (formF a z) (formF b z)
def leqF (a b:Lv):Bool:=rightF a 4 && (rightF b 4 && leqTo a b 16)
theorem leqTo_false {a b:Lv} {i:Nat} (hi:i < 16) (h:belowF (formF a i) (formF b i)=false):leqTo a b 16=false:=by
  have key:∀ g,i < g→leqTo a b g=false:=by
    intro g
    induction g with
    |zero=>intro h'; omega
    |succ g ih =>
      intro hg
      by_cases e:i=g
      · subst e; simp [leqTo,h]
      · simp [leqTo,ih (by omega)]
  exact key 16 hi
theorem shr_ge {z:Int} {q:Nat} (h:0 ≤ z):0 ≤ z / 2 ^ q:=Int.ediv_nonneg h (Int.le_of_lt (Int.pow_pos (by omega)))
theorem shr_lt {z:Int} {q:Nat} (h:0 ≤ z) (h1:z < 16):z / 2 ^ q < 64:=by
  have h2:z / 2 ^ q ≤ z:=Int.ediv_le_self _ h
  omega
theorem fm_ok {f:Fm} {q:Nat} (h:f.ok (100 + q)) (hq:q ≤ 100000):f.ok 1000000:=⟨by have:=h.1; omega,fun j=>by have:=h.2 j; omega⟩
/-- a slice of levels -/
def LvsS (m:Mem) (ls:List Lv) (sv:Value):Prop:=∃ a cap,sv = .slice a ls.length cap∧ls.length ≤ cap∧ls.length ≤ 3518437208780∧(ls=[]∨∃ b off,a=some ⟨b,off,none⟩∧LvsV m ls b off)
theorem LvsS.mono {m m':Mem} {ls:List Lv} {sv:Value} (h:LvsS m ls sv) (hle:Mem.le m m'):LvsS m' ls sv:=by
  obtain ⟨a,cap,h1,h2,h3,h4⟩:=h
  refine ⟨a,cap,h1,h2,h3,?_⟩
  rcases h4 with h4|⟨b,off,h5,h6⟩
  · exact .inl h4
  · exact .inr ⟨b,off,h5,LvsV.mono hle h6⟩
theorem LvsS.open {m:Mem} {ls:List Lv} {sv:Value} (h:LvsS m ls sv):∃ a cap,sv = .slice a ls.length cap∧ls.length ≤ cap∧ls.length ≤ 3518437208780 ∧
    (∀ i x,ls[i]? = some x→∃ b off k1 n1 l1 a1 cap1,a=some ⟨b,off,none⟩∧x = .mk k1 n1 l1∧RdN m b (off + i * 3) [.int .i64 k1,.int .i64 n1,.slice a1 l1.length cap1]∧LvV m x [.int .i64 k1,.int .i64 n1,.slice a1 l1.length cap1]):=by
  obtain ⟨a,cap,h1,h2,h3,h5⟩:=h
  refine ⟨a,cap,h1,h2,h3,fun i x hx=>?_⟩
  obtain ⟨b,off,rfl,hb⟩:=h5.resolve_left (fun e=>by rw [e] at hx; simp at hx)
  obtain ⟨cc,hrd,hlv⟩:=LvsV.at hb hx
  obtain ⟨k1,n1,l1⟩:=x
  have hlv':=hlv
  simp only [LvV] at hlv'
  obtain ⟨_,_,a1,cap1,rfl,_,_⟩:=hlv'
  exact ⟨b,off,k1,n1,l1,a1,cap1,rfl,rfl,hrd,hlv⟩
theorem LvsS.tail {m:Mem} {x:Lv} {r:List Lv} {b off cap:Nat} (h:LvsS m (x :: r) (.slice (some ⟨b,off,none⟩) (x :: r).length cap)) (hr:cap ≠ 1):LvsS m r (.slice (some ⟨b,if cap=1 then off else off + 1 * 3,none⟩) ((x :: r).length - 1) (cap - 1)):=by
  obtain ⟨a,c,h1,h2,h3,h4⟩:=h
  simp only [Value.slice.injEq] at h1
  obtain ⟨rfl,_,rfl⟩:=h1
  obtain ⟨b',off',e,h5⟩:=h4.resolve_left (by simp)
  cases e
  simp only [LvsV] at h5
  rw [if_neg hr]
  have e:(x :: r).length - 1=r.length:=by simp
  rw [e]
  simp only [List.length_cons] at h2 h3
  exact ⟨_,_,rfl,by omega,by omega,.inr ⟨b,off + 1 * 3,rfl,h5.2⟩⟩
/-- rows of levels that were made one by one -/
def LvAll (m:Mem):List Lv→List (List Value)→Prop
  |[],[]=>True
  |l :: ls,c :: cs=>LvV m l c∧LvAll m ls cs
  |_,_=>False
theorem LvAll.mono {m m':Mem} (hle:Mem.le m m'):∀ {ls:List Lv} {cs:List (List Value)},LvAll m ls cs→LvAll m' ls cs
  |[],[],_=>trivial
  |_ :: _,_ :: _,h=>⟨h.1.mono hle,LvAll.mono hle h.2⟩
  |[],_ :: _,h=>h.elim
  |_ :: _,[],h=>h.elim
theorem LvAll.snoc {m:Mem}:∀ {ls:List Lv} {cs:List (List Value)} {l:Lv} {c:List Value},LvAll m ls cs→LvV m l c→LvAll m (ls ++ [l]) (cs ++ [c])
  |[],[],_,_,_,h=>⟨h,trivial⟩
  |_ :: _,_ :: _,_,_,h,h'=>⟨h.1,LvAll.snoc h.2 h'⟩
  |[],_ :: _,_,_,h,_=>h.elim
  |_ :: _,[],_,_,h,_=>h.elim
theorem LvV.len3 {m:Mem} {l:Lv} {c:List Value} (h:LvV m l c):c.length=3:=by
  obtain ⟨k,n,ls,a,cap,rfl,rfl,_⟩:=h.open
  rfl
theorem LvAll.flat {m:Mem} {b:Nat}:∀ {ls:List Lv} {cs:List (List Value)} {off:Nat},LvAll m ls cs→RdN m b off cs.flatten→LvsV m ls b off
  |[],[],_,_,_=>trivial
  |l :: ls,c :: cs,off,h,hr=>by
    have h3:=h.1.len3
    refine ⟨⟨c,fun j v hj=>hr j v ?_,h.1⟩,LvAll.flat h.2 fun j v hj=>?_⟩
    · rw [List.flatten_cons,List.getElem?_append_left (List.getElem?_eq_some_iff.1 hj).1]; exact hj
    · have:=hr (3 + j) v (by rw [List.flatten_cons,List.getElem?_append_right (by omega),h3]; simpa using hj)
      rwa [← Nat.add_assoc] at this
  |[],_ :: _,_,h,_=>h.elim
  |_ :: _,[],_,h,_=>h.elim
theorem LvAll.made {m:Mem} {ls:List Lv} {cs:List (List Value)} {a:Option Addr} (h:LvAll m ls cs) (hr:RowAt m a cs.flatten):ls=[]∨∃ b off,a=some ⟨b,off,none⟩∧LvsV m ls b off:=by
  rcases hr with hr|⟨b,rfl,hr⟩
  · left
    match ls,cs,h with
    |[],_,_=>rfl
    |l :: ls,c :: cs,h =>
      have h3:=h.1.len3
      rw [List.flatten_cons] at hr
      simp at hr
      rw [hr.1] at h3
      simp at h3
  · exact .inr ⟨b,0,rfl,h.flat hr⟩
/- levels in place of parameters -/
def instNode (k n:Int) (ls:List Lv) (bys:List Lv):Lv:=if k=2 then bys.getD n.toNat (.mk 0 0 []) else .mk k n ls
mutual
def instF:Lv→List Lv→Lv
  | .mk k n ls,bys=>instNode k n (instFs ls bys) bys
def instFs:List Lv→List Lv→List Lv
  |[],_=>[]
  |l :: r,bys=>instF l bys :: instFs r bys
end
def grownNode (k n:Int) (s:Int) (bys:List Lv):Int:=if k=2 then nodesF (bys.getD n.toNat (.mk 0 0 [])) else 1 + s
mutual
def grownF:Lv→List Lv→Int
  | .mk k n ls,bys=>grownNode k n (grownFs ls bys) bys
def grownFs:List Lv→List Lv→Int
  |[],_=>0
  |l :: r,bys=>grownF l bys + grownFs r bys
end
def byRight:List Lv→Bool
  |[]=>true
  |l :: r=>rightF l 4 && byRight r
def InstF (l:Lv) (bys:List Lv):Option Lv:=if rightF l bys.length=true then (if byRight bys=true then (if grownF l bys ≤ 64 then some (instF l bys) else none) else none) else none
theorem nodesF_bound (l:Lv):1 ≤ nodesF l∧nodesF l ≤ 65:=by
  have h:1 ≤ sizeL l:=by cases l; simp [sizeL]
  rw [nodesF_eq]; omega
mutual
theorem grownF_bound:∀ (l:Lv) (bys:List Lv),1 ≤ grownF l bys∧grownF l bys ≤ 65 * sizeL l
  | .mk k n ls,bys=>by
    have h:=grownFs_bound ls bys
    have h2:=nodesF_bound (bys.getD n.toNat (.mk 0 0 []))
    have e:grownF (.mk k n ls) bys=grownNode k n (grownFs ls bys) bys:=by simp [grownF]
    have e2:sizeL (.mk k n ls)=sizeLs ls + 1:=by simp [sizeL]
    rw [e,e2]
    unfold grownNode
    split <;> omega
theorem grownFs_bound:∀ (ls:List Lv) (bys:List Lv),0 ≤ grownFs ls bys∧grownFs ls bys ≤ 65 * sizeLs ls
  |[],bys=>by simp [grownFs,sizeLs]
  |l :: r,bys=>by
    have h1:=grownF_bound l bys
    have h2:=grownFs_bound r bys
    have e:grownFs (l :: r) bys=grownF l bys + grownFs r bys:=by simp [grownFs]
    have e2:sizeLs (l :: r)=sizeL l + sizeLs r:=by simp [sizeLs]
    rw [e,e2]; omega
end
/- the references -/
mutual
def lnF:Lv→Int→Int
  | .mk _ _ ls,q=>min (lnFs ls 1 q) (q + 1)
def lnFs:List Lv→Int→Int→Int
  |[],acc,_=>acc
  |l :: r,acc,q=>if acc ≤ q then lnFs r (acc + lnF l q) q else acc
end
mutual
theorem lnF_eq:∀ (l:Lv) (q:Int),0 ≤ q→lnF l q=min (sizeL l:Int) (q + 1)
  | .mk k n ls,q,h=>by
    have h1:=lnFs_eq ls 1 q h (by omega)
    have e:lnF (.mk k n ls) q=min (lnFs ls 1 q) (q + 1):=by simp [lnF]
    have e2:sizeL (.mk k n ls)=sizeLs ls + 1:=by simp [sizeL]
    rw [e,e2]
    omega
theorem lnFs_eq:∀ (ls:List Lv) (acc q:Int),0 ≤ q→1 ≤ acc→min (lnFs ls acc q) (q + 1)=min (acc + sizeLs ls) (q + 1)
  |[],acc,q,h,ha=>by simp [lnFs,sizeLs]
  |l :: r,acc,q,h,ha=>by
    have h1:=lnF_eq l q h
    have hp:1 ≤ sizeL l:=by cases l; simp [sizeL]
    have e2:sizeLs (l :: r)=sizeL l + sizeLs r:=by simp [sizeLs]
    rw [e2]
    by_cases hq:acc ≤ q
    · have e:lnFs (l :: r) acc q=lnFs r (acc + lnF l q) q:=by simp [lnFs,hq]
      have h2:=lnFs_eq r (acc + lnF l q) q h (by omega)
      rw [e,h2]
      omega
    · have e:lnFs (l :: r) acc q=acc:=by simp [lnFs,hq]
      rw [e]
      omega
end
mutual
def sameL:Lv→Lv→Bool
  | .mk k n ls,.mk k' n' ls'=>decide (k=k') && (decide (n=n') && (decide (ls.length=ls'.length) && sameLs ls ls'))
def sameLs:List Lv→List Lv→Bool
  |[],_=>true
  |_ :: _,[]=>true
  |l :: r,l' :: r'=>sameL l l' && sameLs r r'
end
mutual
theorem sameL_refl:∀ l:Lv,sameL l l=true
  | .mk k n ls=>by simp [sameL,sameLs_refl ls]
theorem sameLs_refl:∀ ls:List Lv,sameLs ls ls=true
  |[]=>by simp [sameLs]
  |l :: r=>by simp [sameLs,sameL_refl l,sameLs_refl r]
end
def pts (i:Nat):Int:=[0,1,1000].getD i 0
def pt (i j k m:Nat):List Int:=[pts i,pts j,pts k,pts m]
def leAt (a b:Lv) (i j k m:Nat):Bool:=decide (valF a (clampF (pt i j k m)) ≤ valF b (clampF (pt i j k m)))
def all3 (g:Nat) (p:Nat→Bool):Bool:=match g with
  |0=>true
  |g + 1=>all3 g p && p g
def leqR (a b:Lv):Bool:=rightF a 4 && (rightF b 4 && all3 3 fun i=>all3 3 fun j=>all3 3 fun k=>all3 3 fun m=>leAt a b i j k m)
theorem all3_false {g i:Nat} {p:Nat→Bool} (hi:i < g) (h:p i=false):all3 g p=false:=by
  induction g with
  |zero=>omega
  |succ g ih =>
    by_cases e:i=g
    · subst e; simp [all3,h]
    · simp [all3,ih (by omega)]
theorem all3_succ {g:Nat} {p:Nat→Bool} (h:all3 g p=true) (h':p g=true):all3 (g + 1) p=true:=by simp [all3,h,h']
theorem all3_iff {g:Nat} {p:Nat→Bool}:all3 g p=true↔∀ i,i < g→p i=true:=by
  induction g with
  |zero=>simp [all3]
  |succ g ih =>
    simp only [all3,Bool.and_eq_true,ih]
    constructor
    · rintro ⟨h1,h2⟩ i hi
      by_cases e:i=g
      · rw [e]; exact h2
      · exact h1 i (by omega)
    · intro h
      exact ⟨fun i hi=>h i (by omega),h g (by omega)⟩
end Go.Gw

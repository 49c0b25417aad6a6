/-
  Terms as plain data, slices of whatever lies in memory, and how they lie there. Plain definitions and lemmas.
-/
import Derived.Test.YtehhihdahalfeaaGreatDoorZLv
import Derived.Lib.ItoaNum
import Derived.Lib.Join
import Derived.Lib.ItoaLen
set_option linter.unusedVariables false
set_option linter.unusedSimpArgs false
set_option linter.unnecessarySimpa false
namespace Go.Gw
open Go
/-- a slice whose elements are each of so many cells -/
def SlV {α:Type} (V:Mem→α→List Value→Prop) (sz bound:Nat) (m:Mem) (xs:List α) (sv:Value):Prop :=
  ∃ a cap,sv = .slice a xs.length cap∧xs.length ≤ cap∧xs.length ≤ bound∧∀ i x,xs[i]? = some x→∃ b off cs,a=some ⟨b,off,none⟩∧RdN m b (off + i * sz) cs∧V m x cs
theorem SlV.mono {α:Type} {V:Mem→α→List Value→Prop} {sz bound:Nat} {m m':Mem} {xs:List α} {sv:Value} (h:SlV V sz bound m xs sv) (hV:∀ x cs,V m x cs→V m' x cs) (hle:Mem.le m m'):SlV V sz bound m' xs sv:=by
  obtain ⟨a,cap,h1,h2,h3,h4⟩:=h
  refine ⟨a,cap,h1,h2,h3,fun i x hx=>?_⟩
  obtain ⟨b,off,cs,h5,h6,h7⟩:=h4 i x hx
  exact ⟨b,off,cs,h5,h6.mono hle,hV _ _ h7⟩
theorem SlV.nil {α:Type} {V:Mem→α→List Value→Prop} {sz bound:Nat} {m:Mem}:SlV V sz bound m [] (.slice none 0 0) :=
  ⟨none,0,rfl,Nat.le_refl _,Nat.zero_le _,fun i x h=>by simp at h⟩
/-- rows that were made one by one -/
def AllV {α:Type} (V:Mem→α→List Value→Prop) (sz:Nat) (m:Mem):List α→List (List Value)→Prop
  |[],[]=>True
  |x :: xs,c :: cs=>(V m x c∧c.length=sz)∧AllV V sz m xs cs
  |_,_=>False
section
variable {α:Type} {V:Mem→α→List Value→Prop} {sz:Nat} {m m':Mem}
theorem AllV.mono (hV:∀ x cs,V m x cs→V m' x cs):∀ {xs:List α} {cs:List (List Value)},AllV V sz m xs cs→AllV V sz m' xs cs
  |[],[],_=>trivial
  |_ :: _,_ :: _,h=>⟨⟨hV _ _ h.1.1,h.1.2⟩,AllV.mono hV h.2⟩
  |[],_ :: _,h=>h.elim
  |_ :: _,[],h=>h.elim
theorem AllV.snoc:∀ {xs:List α} {cs:List (List Value)} {x:α} {c:List Value},AllV V sz m xs cs→V m x c→c.length=sz→AllV V sz m (xs ++ [x]) (cs ++ [c])
  |[],[],_,_,_,h,h3=>⟨⟨h,h3⟩,trivial⟩
  |_ :: _,_ :: _,_,_,h,h',h3=>⟨h.1,AllV.snoc h.2 h' h3⟩
  |[],_ :: _,_,_,h,_,_=>h.elim
  |_ :: _,[],_,_,h,_,_=>h.elim
theorem AllV.length:∀ {xs:List α} {cs:List (List Value)},AllV V sz m xs cs→cs.length=xs.length
  |[],[],_=>rfl
  |_ :: _,_ :: _,h=>by simp [AllV.length h.2]
  |[],_ :: _,h=>h.elim
  |_ :: _,[],h=>h.elim
theorem AllV.flatten_length:∀ {xs:List α} {cs:List (List Value)},AllV V sz m xs cs→cs.flatten.length=xs.length * sz
  |[],[],_=>by simp
  |_ :: xs,_ :: _,h=>by rw [List.flatten_cons,List.length_append,AllV.flatten_length h.2,h.1.2,List.length_cons,Nat.succ_mul,Nat.add_comm]
  |[],_ :: _,h=>h.elim
  |_ :: _,[],h=>h.elim
theorem AllV.at {b:Nat}:∀ {xs:List α} {cs:List (List Value)} {off i:Nat} {x:α},AllV V sz m xs cs→RdN m b off cs.flatten→xs[i]? = some x→∃ c,RdN m b (off + i * sz) c∧V m x c
  |x0 :: xs,c0 :: cs,off,i,x,h,hr,hx=>by
    cases i with
    |zero =>
      simp at hx
      subst hx
      refine ⟨c0,fun j v hj=>?_,h.1.1⟩
      have:=hr j v (by rw [List.flatten_cons,List.getElem?_append_left (List.getElem?_eq_some_iff.1 hj).1]; exact hj)
      simpa using this
    |succ i =>
      have hr':RdN m b (off + sz) cs.flatten:=fun j v hj=>by
        have:=hr (sz + j) v (by rw [List.flatten_cons,List.getElem?_append_right (by have:=h.1.2; omega),h.1.2]; simpa using hj)
        rwa [← Nat.add_assoc] at this
      obtain ⟨c,h1,h2⟩:=AllV.at h.2 hr' (by simpa using hx)
      refine ⟨c,?_,h2⟩
      rwa [show off + (i + 1) * sz=off + sz + i * sz by rw [Nat.succ_mul]; omega]
  |[],_,_,i,x,_,_,hx=>by simp at hx
  |_ :: _,[],_,_,_,h,_,_=>h.elim
theorem AllV.made {xs:List α} {cs:List (List Value)} {a:Option Addr} {cap bound:Nat} (hz:0 < sz) (h:AllV V sz m xs cs) (hr:RowAt m a cs.flatten) (hc:xs.length ≤ cap) (hb:xs.length ≤ bound):SlV V sz bound m xs (.slice a xs.length cap):=by
  refine ⟨a,cap,rfl,hc,hb,fun i x hx=>?_⟩
  rcases hr with hr|⟨b,rfl,hr⟩
  · have h1:=h.flatten_length
    rw [hr] at h1
    have h2:=(List.getElem?_eq_some_iff.1 hx).1
    have h3:0 < xs.length * sz:=Nat.mul_pos (by omega) hz
    simp at h1
    omega
  · obtain ⟨c,h1,h2⟩:=h.at hr hx
    exact ⟨b,0,c,rfl,h1,h2⟩
end
/-- a string in one cell -/
def StrV (_:Mem) (s:List UInt8) (cs:List Value):Prop:=cs=[str s]∧s.length ≤ 140737488355328
abbrev StrsV:=SlV StrV 1 8796093022208
theorem StrsV.mono {m m':Mem} {xs:List (List UInt8)} {sv:Value} (h:StrsV m xs sv) (hle:Mem.le m m'):StrsV m' xs sv:=SlV.mono h (fun _ _ h=>h) hle
inductive Tm where
  |mk (k n:Int) (s:List UInt8) (ls:List Lv) (ts:List Tm)
mutual
theorem Tm.ind {P:Tm→Prop} (h:∀ k n s ls ts,(∀ t ∈ ts,P t)→P (.mk k n s ls ts)):∀ t,P t
  | .mk k n s ls ts=>h k n s ls ts (Tm.inds h ts)
theorem Tm.inds {P:Tm→Prop} (h:∀ k n s ls ts,(∀ t ∈ ts,P t)→P (.mk k n s ls ts)):∀ ts:List Tm,∀ t ∈ ts,P t
  |[],_,hl=>by cases hl
  |x :: r,l,hl=>by
    rcases List.mem_cons.1 hl with e|e
    · rw [e]; exact Tm.ind h x
    · exact Tm.inds h r l e
end
inductive TmV (m:Mem):Tm→List Value→Prop where
  |mk {k n:Int} {s:List UInt8} {ls:List Lv} {ts:List Tm} {la ta:Option Addr} {lcap tcap:Nat} (f:Nat→Nat × Nat × List Value) (hk:i64 k) (hn:i64 n) (hs:s.length ≤ 140737488355328)
    (hl:LvsS m ls (.slice la ls.length lcap)) (hc:ts.length ≤ tcap) (hb:ts.length ≤ 1759218604441)
    (ha:∀ i x,ts[i]? = some x→ta=some ⟨(f i).1,(f i).2.1,none⟩∧RdN m (f i).1 ((f i).2.1 + i * 5) (f i).2.2) (ht:∀ i x,ts[i]? = some x→TmV m x (f i).2.2) :
    TmV m (.mk k n s ls ts) [.int .i64 k,.int .i64 n,str s,.slice la ls.length lcap,.slice ta ts.length tcap]
abbrev TmsV:=SlV TmV 5 1759218604441
theorem TmV.mono {m m':Mem} (hle:Mem.le m m') {t:Tm} {cs:List Value} (h:TmV m t cs):TmV m' t cs:=by
  induction h with
  |mk f hk hn hs hl hc hb ha ht ih=>exact .mk f hk hn hs (hl.mono hle) hc hb (fun i x hx=>⟨(ha i x hx).1,(ha i x hx).2.mono hle⟩) ih
theorem TmsV.mono {m m':Mem} {ts:List Tm} {sv:Value} (h:TmsV m ts sv) (hle:Mem.le m m'):TmsV m' ts sv:=SlV.mono h (fun _ _ h=>TmV.mono hle h) hle
theorem TmV.len {m:Mem} {t:Tm} {cs:List Value} (h:TmV m t cs):cs.length=5:=by cases h; rfl
/-- a term as it lies in memory, taken apart -/
theorem TmV.open {m:Mem} {t:Tm} {cs:List Value} (h:TmV m t cs):∃ k n s ls ts la lcap ta tcap,t = .mk k n s ls ts∧cs=[.int .i64 k,.int .i64 n,str s,.slice la (List.length (α:=Lv) ls) lcap,.slice ta (List.length (α:=Tm) ts) tcap] ∧
    i64 k∧i64 n∧s.length ≤ 140737488355328∧LvsS m ls (.slice la ls.length lcap)∧TmsV m ts (.slice ta ts.length tcap):=by
  cases h with
  |mk f hk hn hs hl hc hb ha ht=>exact ⟨_,_,_,_,_,_,_,_,_,rfl,rfl,hk,hn,hs,hl,_,_,rfl,hc,hb,fun i x hx=>⟨_,_,_,(ha i x hx).1,(ha i x hx).2,ht i x hx⟩⟩
theorem TmV.of {m:Mem} {k n:Int} {s:List UInt8} {ls:List Lv} {ts:List Tm} {la ta:Option Addr} {lcap tcap:Nat} (hk:i64 k) (hn:i64 n) (hs:s.length ≤ 140737488355328)
    (hl:LvsS m ls (.slice la ls.length lcap)) (ht:TmsV m ts (.slice ta ts.length tcap)):TmV m (.mk k n s ls ts) [.int .i64 k,.int .i64 n,str s,.slice la ls.length lcap,.slice ta ts.length tcap]:=by
  obtain ⟨a,cap,h1,h2,h3,h4⟩:=ht
  simp only [Value.slice.injEq,true_and] at h1
  obtain ⟨rfl,rfl⟩:=h1
  have hf:∃ f:Nat→Nat × Nat × List Value,∀ i x,ts[i]? = some x→(ta=some ⟨(f i).1,(f i).2.1,none⟩∧RdN m (f i).1 ((f i).2.1 + i * 5) (f i).2.2)∧TmV m x (f i).2.2:=by
    refine Classical.axiomOfChoice (r:=fun i (p:Nat × Nat × List Value)=>∀ x,ts[i]? = some x→(ta=some ⟨p.1,p.2.1,none⟩∧RdN m p.1 (p.2.1 + i * 5) p.2.2)∧TmV m x p.2.2) fun i=>?_
    cases h:ts[i]? with
    |none=>exact ⟨(0,0,[]),fun x hx=>by cases hx⟩
    |some x =>
      obtain ⟨b,off,cs,h5,h6,h7⟩:=h4 i x h
      exact ⟨(b,off,cs),fun y hy=>by cases hy; exact ⟨⟨h5,h6⟩,h7⟩⟩
  obtain ⟨f,hf⟩:=hf
  exact .mk f hk hn hs hl h2 h3 (fun i x hx=>(hf i x hx).1) (fun i x hx=>(hf i x hx).2)
/-- an element of a slice of terms, taken apart -/
theorem TmsV.at {m:Mem} {ts:List Tm} {a:Option Addr} {len cap:Nat} (h:TmsV m ts (.slice a len cap)) {i:Nat} {x:Tm} (hx:ts[i]? = some x):∃ b off k n s ls us la lcap ta tcap,a=some ⟨b,off,none⟩∧x = .mk k n s ls us ∧
    RdN m b (off + i * 5) [.int .i64 k,.int .i64 n,str s,.slice la (List.length (α:=Lv) ls) lcap,.slice ta (List.length (α:=Tm) us) tcap]∧TmV m x [.int .i64 k,.int .i64 n,str s,.slice la ls.length lcap,.slice ta us.length tcap]:=by
  obtain ⟨a',cap',h1,h2,h3,h4⟩:=h
  simp only [Value.slice.injEq] at h1
  obtain ⟨rfl,rfl,rfl⟩:=h1
  obtain ⟨b,off,cs,h5,h6,h7⟩:=h4 i x hx
  have h8:=h7
  obtain ⟨k,n,s,ls,us,la,lcap,ta,tcap,e1,e2,-⟩:=h7.open
  rw [e2] at h6 h8
  exact ⟨b,off,k,n,s,ls,us,la,lcap,ta,tcap,h5,e1,h6,h8⟩
end Go.Gw
namespace Go.Gw
open Go
def Tm.kind:Tm→Int | .mk k _ _ _ _=>k
def Tm.num:Tm→Int | .mk _ n _ _ _=>n
def Tm.name:Tm→List UInt8 | .mk _ _ s _ _=>s
def Tm.levels:Tm→List Lv | .mk _ _ _ ls _=>ls
def Tm.args:Tm→List Tm | .mk _ _ _ _ ts=>ts
def Tm.zero:Tm:=.mk 0 0 [] [] []
mutual
def cntT:Tm→Int→Int
  | .mk _ _ _ ls ts,left=>cntTs ts (countFs ls (left - 1))
def cntTs:List Tm→Int→Int
  |[],left=>left
  |t :: r,left=>if left < 0 then left else cntTs r (cntT t left)
end
def nodesT (t:Tm):Int:=2000 - max (cntT t 2000) (-1)
mutual
theorem cntT_ge:∀ (t:Tm) (left:Int),0 ≤ left→-1 ≤ cntT t left∧cntT t left ≤ left
  | .mk _ _ _ ls ts,left,h=>by
    simp only [cntT]
    have h1:=countFs_ge ls (left - 1) (by omega)
    have h2:=cntTs_ge ts (countFs ls (left - 1)) h1.1
    omega
theorem cntTs_ge:∀ (ts:List Tm) (left:Int),-1 ≤ left→-1 ≤ cntTs ts left∧cntTs ts left ≤ left
  |[],left,h=>by simp only [cntTs]; omega
  |t :: r,left,h=>by
    simp only [cntTs]
    split
    · omega
    · have h1:=cntT_ge t left (by omega)
      have h2:=cntTs_ge r (cntT t left) (by omega)
      omega
end
theorem cntTs_neg (ts:List Tm) (left:Int) (h:left < 0):cntTs ts left=left:=by
  cases ts <;> simp [cntTs,h]
/-- how many arguments, how many levels, in which argument there is a binder more -/
def shArgs (k:Int):Int:=if k=4∨k=5∨k=6 then 2 else if k=7 then 3 else 0
def shLevels (k:Int):Int:=if k=2 then 1 else 0
def shBinds (k:Int):Int:=if k=0 then 0 else if k=5∨k=6 then 1 else if k=7 then 2 else -1
def innerF (binds at_ deep:Int):Int:=if at_=binds then deep + 1 else deep
/- names -/
def plainC (c:UInt8):Bool:=(97 ≤ c && c ≤ 122) || (48 ≤ c && c ≤ 57) || c == 95
def partF (s:List UInt8):Bool:=match s with
  |[]=>false
  |c :: r=>!(48 ≤ c && c ≤ 57) && (c :: r).all plainC
/-- the parts of a name: what stands between dots -/
def splitDot:List UInt8→List UInt8→List (List UInt8)
  |acc,[]=>[acc.reverse]
  |acc,c :: r=>if c == 46 then acc.reverse :: splitDot [] r else splitDot (c :: acc) r
def partsF (s:List UInt8):List (List UInt8):=splitDot [] s
def nameF (s:List UInt8):Bool:=decide (s.length ≤ 40) && (partsF s).all partF
def nodeT:Tm→Int→Bool
  | .mk k n s ls _,kk=>if k=1 then decide (0 ≤ n) && (decide (n < kk) && (s == [] && decide (ls.length=0))) else if k=3 then decide (n=0) && (nameF s && decide (ls.length ≤ 4)) else decide (n=0) && (s == [] && decide ((ls.length:Int)=shLevels k))
def rightLs:List Lv→Int→Bool
  |[],_=>true
  |l :: r,p=>rightF l p && rightLs r p
mutual
def allT:Tm→Int→Int→Bool
  | .mk k n s ls ts,p,kk=>(decide (1 ≤ k) && decide (k ≤ 7)) && (decide ((ts.length:Int)=shArgs k) && (nodeT (.mk k n s ls ts) kk && (rightLs ls p && allTs ts k 0 p kk)))
def allTs:List Tm→Int→Int→Int→Int→Bool
  |[],_,_,_,_=>true
  |t :: r,k,i,p,kk=>allT t p (innerF (shBinds k) i kk) && allTs r k (i + 1) p kk
end
def rightT (t:Tm) (p kk:Int):Bool:=decide (0 ≤ p) && (decide (p ≤ 4) && (decide (0 ≤ kk) && (decide (nodesT t ≤ 2000) && allT t p (min kk 1125899906842624))))
/- how deep a term is -/
mutual
def depT:Tm→Nat
  | .mk _ _ _ _ ts=>depTs ts + 1
def depTs:List Tm→Nat
  |[]=>0
  |t :: r=>max (depT t) (depTs r)
end
theorem depTs_mem:∀ {ts:List Tm} {t:Tm},t ∈ ts→depT t ≤ depTs ts
  |x :: r,t,h=>by
    rw [depTs]
    rcases List.mem_cons.1 h with rfl|h
    · omega
    · have:=depTs_mem h
      omega
mutual
theorem cntT_dep:∀ (t:Tm) (left:Int),0 ≤ left→0 ≤ cntT t left→(depT t:Int) ≤ left
  | .mk _ _ _ ls ts,left,h,hc=>by
    simp only [cntT] at hc
    rw [depT]
    have h1:=countFs_ge ls (left - 1) (by omega)
    have h2:=cntTs_dep ts (countFs ls (left - 1)) h1.1 hc
    omega
theorem cntTs_dep:∀ (ts:List Tm) (left:Int),-1 ≤ left→0 ≤ cntTs ts left→(depTs ts:Int) ≤ left
  |[],left,h,hc=>by simp only [cntTs] at hc; simp [depTs,hc]
  |t :: r,left,h,hc=>by
    simp only [cntTs] at hc
    split at hc
    · omega
    · rename_i h0
      have h1:=cntT_ge t left (by omega)
      have h2:=cntTs_dep r (cntT t left) (by omega) hc
      have h3:0 ≤ cntT t left:=by
        by_cases h4:cntT t left < 0
        · rw [cntTs_neg r _ h4] at hc
          omega
        · omega
      have h4:=cntT_dep t left (by omega) h3
      rw [depTs]
      omega
end
theorem nodes_dep {t:Tm} (h:nodesT t ≤ 2000):depT t ≤ 2000:=by
  unfold nodesT at h
  have:=cntT_dep t 2000 (by omega) (by omega)
  omega
/-- the head, and what it is applied to -/
def spineF:Tm→List Tm→Tm × List Tm
  | .mk 4 n s ls [f,x],acc=>spineF f (x :: acc)
  |t,acc=>(t,acc)
end Go.Gw
namespace Go.Gw
open Go
def groupF (parts:List (List UInt8)):List UInt8:=[40] ++ Lib.join parts [32] ++ [41]
def signF (k:Int):List UInt8:=if k=3 then [43] else if k=4 then [124] else if k=5 then [63] else []
def binderF (k:Int):List UInt8:=if k=5 then [92] else if k=6 then [62] else if k=7 then [61] else []
mutual
def lvText:Lv→List UInt8
  | .mk k n ls=>if k=1 then Lib.itoa n else if k=2 then [117] ++ Lib.itoa n else groupF (signF k :: lvTexts ls)
def lvTexts:List Lv→List (List UInt8)
  |[]=>[]
  |l :: r=>lvText l :: lvTexts r
end
def levelText (l:Lv):List UInt8:=if rightF l 4=true then lvText l else []
/- a term's text, and the texts of its spine's parts -/
mutual
def txT:Tm→List UInt8 × List (List UInt8)
  | .mk k n s ls ts =>
    let cs:=txTs ts
    if k=4 then
      let parts:=(cs.getD 0 ([],[])).2 ++ [(cs.getD 1 ([],[])).1]
      (groupF parts,parts)
    else
      let t:=if k=1 then [35] ++ Lib.itoa n else if k=2 then groupF [[42],lvText (ls.getD 0 (.mk 0 0 []))] else if k=3 then (if ls.length=0 then s else groupF ([64] :: s :: lvTexts ls)) else groupF (binderF k :: cs.map (·.1))
      (t,[t])
def txTs:List Tm→List (List UInt8 × List (List UInt8))
  |[]=>[]
  |t :: r=>txT t :: txTs r
end
def termText (t:Tm):List UInt8:=if rightT t 4 1125899906842624=true then (txT t).1 else []
/- reading: none where the text is none -/
def isEnd (c:UInt8):Bool:=c == 32 || c == 40 || c == 41
def wordF:List UInt8→List UInt8 × List UInt8
  |[]=>([],[])
  |c :: r=>if isEnd c then ([],c :: r) else ((c :: (wordF r).1),(wordF r).2)
def numF (s:List UInt8):Option Int:=if s=[] then none else if s.length ≤ 18∧s.all (fun c=>48 ≤ c && c ≤ 57) then some (s.foldl (fun a c=>a * 10 + ((c.toNat:Int) - 48)) 0) else none
def signK (s:List UInt8):Int:=if s=[43] then 3 else if s=[124] then 4 else if s=[63] then 5 else 0
mutual
def readLv:Nat→List UInt8→Option (Lv × List UInt8)
  |0,_=>none
  |fuel + 1,s=>match s with
    |[]=>none
    |40 :: r =>
      let w:=wordF r
      match readLvs fuel w.2 with
      |some (ls,41 :: r')=>some (.mk (signK w.1) 0 ls,r')
      |_=>none
    |s =>
      let w:=wordF s
      match w.1 with
      |117 :: d=>(numF d).map fun n=>(.mk 2 n [],w.2)
      |d=>(numF d).map fun n=>(.mk 1 n [],w.2)
def readLvs:Nat→List UInt8→Option (List Lv × List UInt8)
  |0,_=>none
  |fuel + 1,s=>match s with
    |32 :: r=>match readLv fuel r with
      |some (l,r')=>(readLvs fuel r').map fun p=>(l :: p.1,p.2)
      |none=>none
    |s=>some ([],s)
end
def binderK (s:List UInt8):Int:=if s=[92] then 5 else if s=[62] then 6 else if s=[61] then 7 else 0
def appF (f:Tm):List Tm→Tm
  |[]=>f
  |x :: r=>appF (.mk 4 0 [] [] [f,x]) r
mutual
def readTm:Nat→List UInt8→Option (Tm × List UInt8)
  |0,_=>none
  |fuel + 1,s=>match s with
    |[]=>none
    |40 :: r=>match readGr fuel r with
      |some (t,41 :: r')=>some (t,r')
      |_=>none
    |s =>
      let w:=wordF s
      match w.1 with
      |35 :: d=>(numF d).map fun n=>(.mk 1 n [] [] [],w.2)
      |d=>some (.mk 3 0 d [] [],w.2)
def readGr:Nat→List UInt8→Option (Tm × List UInt8)
  |0,_=>none
  |fuel + 1,s=>match s with
    |42 :: 32 :: r=>(readLv fuel r).map fun p=>(.mk 2 0 [] [p.1] [],p.2)
    |64 :: 32 :: r=>let w:=wordF r
      (readLvs fuel w.2).map fun p=>(.mk 3 0 w.1 p.1 [],p.2)
    |c :: 32 :: r=>if binderK [c]=0 then (match readTm fuel (c :: 32 :: r) with
        |some (t,r')=>(readTms fuel r').map fun p=>(appF t p.1,p.2)
        |none=>none)
      else (readTms fuel (32 :: r)).map fun p=>(.mk (binderK [c]) 0 [] [] p.1,p.2)
    |s=>match readTm fuel s with
        |some (t,r')=>(readTms fuel r').map fun p=>(appF t p.1,p.2)
        |none=>none
def readTms:Nat→List UInt8→Option (List Tm × List UInt8)
  |0,_=>none
  |fuel + 1,s=>match s with
    |32 :: r=>match readTm fuel r with
      |some (t,r')=>(readTms fuel r').map fun p=>(t :: p.1,p.2)
      |none=>none
    |s=>some ([],s)
end
end Go.Gw
namespace Go.Gw
open Go
theorem lvTexts_eq:∀ ls:List Lv,lvTexts ls=ls.map lvText
  |[]=>rfl
  |l :: r=>by rw [lvTexts,lvTexts_eq r]; rfl
theorem group_length (xs:List (List UInt8)):(groupF xs).length=(Lib.join xs [32]).length + 2:=by simp [groupF]
theorem all_kind {k n:Int} {ls:List Lv} (h:allF (.mk k n ls) 4=true) (h1:¬ k=1) (h2:¬ k=2):(3 ≤ k∧k ≤ 5)∧0 < ls.length∧ls.length ≤ 2:=by
  rw [allF,Bool.and_eq_true] at h
  have h:=h.1
  rw [nodeF] at h
  split at h
  · rename_i hw
    unfold wideF at hw
    split at hw <;> (try split at hw) <;> (try split at hw) <;> (try split at hw) <;> omega
  · cases h
/- a right level's text is short -/
mutual
theorem lvText_le:∀ (l:Lv),allF l 4=true→(lvText l).length ≤ 30 * sizeL l
  | .mk k n ls,h=>by
    have h0:=h
    rw [allF,Bool.and_eq_true] at h
    rw [lvText,sizeL]
    by_cases h1:k=1
    · subst h1
      rw [if_pos rfl]
      have hn:0 ≤ n∧n ≤ 100:=by
        have h:=h.1
        rw [nodeF] at h
        split at h <;> simp at h
        exact h
      have:=Lib.itoa_length_le n (by omega) (by omega)
      omega
    · rw [if_neg h1]
      by_cases h2:k=2
      · subst h2
        rw [if_pos rfl]
        have hn:0 ≤ n∧n < 4:=by
          have h:=h.1
          rw [nodeF] at h
          split at h <;> simp at h
          exact h
        have:=Lib.itoa_length_le n (by omega) (by omega)
        simp
        omega
      · rw [if_neg h2]
        have hk:=all_kind h0 h1 h2
        have hs:=lvTexts_le ls h.2
        have h3:(signF k).length ≤ 1:=by unfold signF; split <;> (try split) <;> (try split) <;> simp
        rw [group_length,Lib.join_length,lvTexts_eq]
        rw [lvTexts_eq] at hs
        have h4:Lib.lens (signF k :: ls.map lvText)=(signF k).length + Lib.lens (ls.map lvText):=by simp [Lib.lens]
        rw [h4]
        simp
        omega
theorem lvTexts_le:∀ (ls:List Lv),allFs ls 4=true→Lib.lens (lvTexts ls) ≤ 30 * sizeLs ls
  |[],_=>by simp [lvTexts,Lib.lens]
  |l :: r,h=>by
    rw [allFs,Bool.and_eq_true] at h
    have h1:=lvText_le l h.1
    have h2:=lvTexts_le r h.2
    have h4:Lib.lens (lvText l :: lvTexts r)=(lvText l).length + Lib.lens (lvTexts r):=by simp [Lib.lens]
    rw [lvTexts,sizeLs,h4]
    omega
end
/- terms without applications -/
mutual
def noApp:Tm→Bool
  | .mk k _ _ _ ts=>decide (k ≠ 4) && noApps ts
def noApps:List Tm→Bool
  |[]=>true
  |t :: r=>noApp t && noApps r
end
mutual
def txN:Tm→List UInt8
  | .mk k n s ls ts=>if k=1 then [35] ++ Lib.itoa n else if k=2 then groupF [[42],lvText (ls.getD 0 (.mk 0 0 []))] else if k=3 then (if ls.length=0 then s else groupF ([64] :: s :: lvTexts ls)) else groupF (binderF k :: txNs ts)
def txNs:List Tm→List (List UInt8)
  |[]=>[]
  |t :: r=>txN t :: txNs r
end
def textN (t:Tm):List UInt8:=if rightT t 4 1125899906842624=true then txN t else []
end Go.Gw

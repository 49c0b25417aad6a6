/-
  Rows of the run's own: out of a block that was written out; looked at in the middle of a run. Plain lemmas.
-/
import Derived.Test.YtljnahbgfmflaaaGreatDoorZHb
import Derived.Lib.Strings
import Derived.Test.YtljnahbgfmflaaaGreatDoorZLv
import Derived.Lib.ItoaNum
import Derived.Lib.Join
import Derived.Lib.ItoaLen
set_option linter.unusedVariables false
set_option linter.unusedSimpArgs false
set_option linter.unnecessarySimpa false
namespace Go.Gw
open Go
section
variable {E:Entry} {P:Program} {n:Nat} {K:Exit→St→Prop} {ρ:Env} {m:Mem} {μ:Own} {D:List Deferred} {ops:Array Oper} {rest:List Oper}
 {d:Nat} {ty:TypeId} {pos:String} {after:Array Edge}
variable {dst:Option Nat} {gd:Option (Nat × Bool)} {T T':TypeId} {x y z:Operand} {i j:Int}
end
open Go
abbrev str (l:List UInt8):Value:=.string ⟨l.toArray⟩
theorem jdo (s:ByteArray):Value.string s=str s.data.toList:=by cases s; simp
theorem j7b (l:List UInt8):(⟨l.toArray⟩:ByteArray).toList=l:=by rw [Lib.toList_data]
theorem j2H (l:List UInt8):(⟨l.toArray⟩:ByteArray).size=l.length:=by simp [ByteArray.size]
theorem jkn (a b:List UInt8):(⟨a.toArray⟩:ByteArray) ++ (⟨b.toArray⟩:ByteArray)=⟨(a ++ b).toArray⟩:=by
 apply ByteArray.ext
 simp
theorem j5t (l:List UInt8) (i j:Nat):(⟨l.toArray⟩:ByteArray).extract i j=⟨((l.drop i).take (j - i)).toArray⟩:=by
 apply ByteArray.ext
 simp [List.extract_eq_take_drop]
section
variable {E:Entry} {P:Program} {n:Nat} {ρ:Env} {m:Mem} {μ:Own} {ty:TypeId} {pos:String} {after:Array Edge}
variable {dst:Option Nat} {gd:Option (Nat × Bool)} {T T':TypeId} {x y z:Operand} {i j:Int} {a b:List UInt8}
end
open Go
def SlV {α:Type} (V:Mem→α→List Value→Prop) (sz bound:Nat) (m:Mem) (xs:List α) (sv:Value):Prop :=
 ∃ a cap,sv = .slice a xs.length cap∧xs.length ≤ cap∧xs.length ≤ bound∧∀ i x,xs[i]? = some x→∃ b off cs,a=some ⟨b,off,none⟩∧RdN m b (off + i * sz) cs∧V m x cs
theorem SlV.mono {α:Type} {V:Mem→α→List Value→Prop} {sz bound:Nat} {m m':Mem} {xs:List α} {sv:Value} (h:SlV V sz bound m xs sv) (hV:∀ x cs,V m x cs→V m' x cs) (hle:Mem.le m m'):SlV V sz bound m' xs sv:=by
 obtain ⟨a,cap,h1,h2,h3,h4⟩:=h
 refine ⟨a,cap,h1,h2,h3,fun i x hx=>?_⟩
 obtain ⟨b,off,cs,h5,h6,h7⟩:=h4 i x hx
 exact ⟨b,off,cs,h5,h6.mono hle,hV _ _ h7⟩
theorem SlV.nil {α:Type} {V:Mem→α→List Value→Prop} {sz bound:Nat} {m:Mem}:SlV V sz bound m [] (.slice none 0 0) :=
 ⟨none,0,rfl,Nat.le_refl _,Nat.zero_le _,fun i x h=>by simp at h⟩
def AllV {α:Type} (V:Mem→α→List Value→Prop) (sz:Nat) (m:Mem):List α→List (List Value)→Prop
 |[],[]=>True
 |x :: xs,c :: cs=>(V m x c∧c.length=sz)∧AllV V sz m xs cs
 |_,_=>False
section
variable {α:Type} {V:Mem→α→List Value→Prop} {sz:Nat} {m m':Mem}
theorem AllV.mono (hV:∀ x cs,V m x cs→V m' x cs):∀ {xs:List α} {cs:List (List Value)},AllV V sz m xs cs→AllV V sz m' xs cs
 |[],[],_=>trivial
 |_ :: _,_ :: _,h=>⟨⟨hV _ _ h.1.1,h.1.2⟩,AllV.mono hV h.2⟩
 |[],_ :: _,h=>h.elim
 |_ :: _,[],h=>h.elim
theorem AllV.snoc:∀ {xs:List α} {cs:List (List Value)} {x:α} {c:List Value},AllV V sz m xs cs→V m x c→c.length=sz→AllV V sz m (xs ++ [x]) (cs ++ [c])
 |[],[],_,_,_,h,h3=>⟨⟨h,h3⟩,trivial⟩
 |_ :: _,_ :: _,_,_,h,h',h3=>⟨h.1,AllV.snoc h.2 h' h3⟩
 |[],_ :: _,_,_,h,_,_=>h.elim
 |_ :: _,[],_,_,h,_,_=>h.elim
theorem AllV.length:∀ {xs:List α} {cs:List (List Value)},AllV V sz m xs cs→cs.length=xs.length
 |[],[],_=>rfl
 |_ :: _,_ :: _,h=>by simp [AllV.length h.2]
 |[],_ :: _,h=>h.elim
 |_ :: _,[],h=>h.elim
theorem AllV.flatten_length:∀ {xs:List α} {cs:List (List Value)},AllV V sz m xs cs→cs.flatten.length=xs.length * sz
 |[],[],_=>by simp
 |_ :: xs,_ :: _,h=>by rw [List.flatten_cons,List.length_append,AllV.flatten_length h.2,h.1.2,List.length_cons,Nat.succ_mul,Nat.add_comm]
 |[],_ :: _,h=>h.elim
 |_ :: _,[],h=>h.elim
theorem AllV.at {b:Nat}:∀ {xs:List α} {cs:List (List Value)} {off i:Nat} {x:α},AllV V sz m xs cs→RdN m b off cs.flatten→xs[i]? = some x→∃ c,RdN m b (off + i * sz) c∧V m x c
 |x0 :: xs,c0 :: cs,off,i,x,h,hr,hx=>by
  cases i with
  |zero =>
   simp at hx
   subst hx
   refine ⟨c0,fun j v hj=>?_,h.1.1⟩
   have:=hr j v (by rw [List.flatten_cons,List.getElem?_append_left (List.getElem?_eq_some_iff.1 hj).1]; exact hj)
   simpa using this
  |succ i =>
   have hr':RdN m b (off + sz) cs.flatten:=fun j v hj=>by
    have:=hr (sz + j) v (by rw [List.flatten_cons,List.getElem?_append_right (by have:=h.1.2; omega),h.1.2]; simpa using hj)
    rwa [← Nat.add_assoc] at this
   obtain ⟨c,h1,h2⟩:=AllV.at h.2 hr' (by simpa using hx)
   refine ⟨c,?_,h2⟩
   rwa [show off + (i + 1) * sz=off + sz + i * sz by rw [Nat.succ_mul]; omega]
 |[],_,_,i,x,_,_,hx=>by simp at hx
 |_ :: _,[],_,_,_,h,_,_=>h.elim
theorem AllV.made {xs:List α} {cs:List (List Value)} {a:Option Addr} {cap bound:Nat} (hz:0 < sz) (h:AllV V sz m xs cs) (hr:RowAt m a cs.flatten) (hc:xs.length ≤ cap) (hb:xs.length ≤ bound):SlV V sz bound m xs (.slice a xs.length cap):=by
 refine ⟨a,cap,rfl,hc,hb,fun i x hx=>?_⟩
 rcases hr with hr|⟨b,rfl,hr⟩
 ·have h1:=h.flatten_length
  rw [hr] at h1
  have h2:=(List.getElem?_eq_some_iff.1 hx).1
  have h3:0 < xs.length * sz:=Nat.mul_pos (by omega) hz
  simp at h1
  omega
 ·obtain ⟨c,h1,h2⟩:=h.at hr hx
  exact ⟨b,0,c,rfl,h1,h2⟩
end
def StrV (_:Mem) (s:List UInt8) (cs:List Value):Prop:=cs=[str s]∧s.length ≤ 140737488355328
abbrev StrsV:=SlV StrV 1 8796093022208
theorem StrsV.mono {m m':Mem} {xs:List (List UInt8)} {sv:Value} (h:StrsV m xs sv) (hle:Mem.le m m'):StrsV m' xs sv:=SlV.mono h (fun _ _ h=>h) hle
inductive Tm where
 |mk (k n:Int) (s:List UInt8) (ls:List Lv) (ts:List Tm)
mutual
theorem Tm.ind {P:Tm→Prop} (h:∀ k n s ls ts,(∀ t ∈ ts,P t)→P (.mk k n s ls ts)):∀ t,P t
 | .mk k n s ls ts=>h k n s ls ts (Tm.inds h ts)
theorem Tm.inds {P:Tm→Prop} (h:∀ k n s ls ts,(∀ t ∈ ts,P t)→P (.mk k n s ls ts)):∀ ts:List Tm,∀ t ∈ ts,P t
 |[],_,hl=>by cases hl
 |x :: r,l,hl=>by
  rcases List.mem_cons.1 hl with e|e
  ·rw [e]; exact Tm.ind h x
  ·exact Tm.inds h r l e
end
inductive TmV (m:Mem):Tm→List Value→Prop where
 |mk {k n:Int} {s:List UInt8} {ls:List Lv} {ts:List Tm} {la ta:Option Addr} {lcap tcap:Nat} (f:Nat→Nat × Nat × List Value) (hk:i64 k) (hn:i64 n) (hs:s.length ≤ 140737488355328)
  (hl:LvsS m ls (.slice la ls.length lcap)) (hc:ts.length ≤ tcap) (hb:ts.length ≤ 1759218604441)
  (ha:∀ i x,ts[i]? = some x→ta=some ⟨(f i).1,(f i).2.1,none⟩∧RdN m (f i).1 ((f i).2.1 + i * 5) (f i).2.2) (ht:∀ i x,ts[i]? = some x→TmV m x (f i).2.2) :
  TmV m (.mk k n s ls ts) [.int .i64 k,.int .i64 n,str s,.slice la ls.length lcap,.slice ta ts.length tcap]
abbrev TmsV:=SlV TmV 5 1759218604441
theorem TmV.mono {m m':Mem} (hle:Mem.le m m') {t:Tm} {cs:List Value} (h:TmV m t cs):TmV m' t cs:=by
 induction h with
 |mk f hk hn hs hl hc hb ha ht ih=>exact .mk f hk hn hs (hl.mono hle) hc hb (fun i x hx=>⟨(ha i x hx).1,(ha i x hx).2.mono hle⟩) ih
theorem TmsV.mono {m m':Mem} {ts:List Tm} {sv:Value} (h:TmsV m ts sv) (hle:Mem.le m m'):TmsV m' ts sv:=SlV.mono h (fun _ _ h=>TmV.mono hle h) hle
theorem TmV.len {m:Mem} {t:Tm} {cs:List Value} (h:TmV m t cs):cs.length=5:=by cases h; rfl
theorem TmV.open {m:Mem} {t:Tm} {cs:List Value} (h:TmV m t cs):∃ k n s ls ts la lcap ta tcap,t = .mk k n s ls ts∧cs=[.int .i64 k,.int .i64 n,str s,.slice la (List.length (α:=Lv) ls) lcap,.slice ta (List.length (α:=Tm) ts) tcap] ∧
  i64 k∧i64 n∧s.length ≤ 140737488355328∧LvsS m ls (.slice la ls.length lcap)∧TmsV m ts (.slice ta ts.length tcap):=by
 cases h with
 |mk f hk hn hs hl hc hb ha ht=>exact ⟨_,_,_,_,_,_,_,_,_,rfl,rfl,hk,hn,hs,hl,_,_,rfl,hc,hb,fun i x hx=>⟨_,_,_,(ha i x hx).1,(ha i x hx).2,ht i x hx⟩⟩
theorem TmV.of {m:Mem} {k n:Int} {s:List UInt8} {ls:List Lv} {ts:List Tm} {la ta:Option Addr} {lcap tcap:Nat} (hk:i64 k) (hn:i64 n) (hs:s.length ≤ 140737488355328)
  (hl:LvsS m ls (.slice la ls.length lcap)) (ht:TmsV m ts (.slice ta ts.length tcap)):TmV m (.mk k n s ls ts) [.int .i64 k,.int .i64 n,str s,.slice la ls.length lcap,.slice ta ts.length tcap]:=by
 obtain ⟨a,cap,h1,h2,h3,h4⟩:=ht
 simp only [Value.slice.injEq,true_and] at h1
 obtain ⟨rfl,rfl⟩:=h1
 have hf:∃ f:Nat→Nat × Nat × List Value,∀ i x,ts[i]? = some x→(ta=some ⟨(f i).1,(f i).2.1,none⟩∧RdN m (f i).1 ((f i).2.1 + i * 5) (f i).2.2)∧TmV m x (f i).2.2:=by
  refine Classical.axiomOfChoice (r:=fun i (p:Nat × Nat × List Value)=>∀ x,ts[i]? = some x→(ta=some ⟨p.1,p.2.1,none⟩∧RdN m p.1 (p.2.1 + i * 5) p.2.2)∧TmV m x p.2.2) fun i=>?_
  cases h:ts[i]? with
  |none=>exact ⟨(0,0,[]),fun x hx=>by cases hx⟩
  |some x =>
   obtain ⟨b,off,cs,h5,h6,h7⟩:=h4 i x h
   exact ⟨(b,off,cs),fun y hy=>by cases hy; exact ⟨⟨h5,h6⟩,h7⟩⟩
 obtain ⟨f,hf⟩:=hf
 exact .mk f hk hn hs hl h2 h3 (fun i x hx=>(hf i x hx).1) (fun i x hx=>(hf i x hx).2)
theorem TmsV.at {m:Mem} {ts:List Tm} {a:Option Addr} {len cap:Nat} (h:TmsV m ts (.slice a len cap)) {i:Nat} {x:Tm} (hx:ts[i]? = some x):∃ b off k n s ls us la lcap ta tcap,a=some ⟨b,off,none⟩∧x = .mk k n s ls us ∧
  RdN m b (off + i * 5) [.int .i64 k,.int .i64 n,str s,.slice la (List.length (α:=Lv) ls) lcap,.slice ta (List.length (α:=Tm) us) tcap]∧TmV m x [.int .i64 k,.int .i64 n,str s,.slice la ls.length lcap,.slice ta us.length tcap]:=by
 obtain ⟨a',cap',h1,h2,h3,h4⟩:=h
 simp only [Value.slice.injEq] at h1
 obtain ⟨rfl,rfl,rfl⟩:=h1
 obtain ⟨b,off,cs,h5,h6,h7⟩:=h4 i x hx
 have h8:=h7
 obtain ⟨k,n,s,ls,us,la,lcap,ta,tcap,e1,e2,-⟩:=h7.open
 rw [e2] at h6 h8
 exact ⟨b,off,k,n,s,ls,us,la,lcap,ta,tcap,h5,e1,h6,h8⟩
open Go
def Tm.kind:Tm→Int | .mk k _ _ _ _=>k
def Tm.num:Tm→Int | .mk _ n _ _ _=>n
def Tm.name:Tm→List UInt8 | .mk _ _ s _ _=>s
def Tm.levels:Tm→List Lv | .mk _ _ _ ls _=>ls
def Tm.args:Tm→List Tm | .mk _ _ _ _ ts=>ts
def Tm.zero:Tm:=.mk 0 0 [] [] []
mutual
def cntT:Tm→Int→Int
 | .mk _ _ _ ls ts,left=>j4j ts (j0u ls (left - 1))
def j4j:List Tm→Int→Int
 |[],left=>left
 |t :: r,left=>if left < 0 then left else j4j r (cntT t left)
end
def j0x (t:Tm):Int:=2000 - max (cntT t 2000) (-1)
mutual
theorem jcH:∀ (t:Tm) (left:Int),0 ≤ left→-1 ≤ cntT t left∧cntT t left ≤ left
 | .mk _ _ _ ls ts,left,h=>by
  simp only [cntT]
  have h1:=j3G ls (left - 1) (by omega)
  have h2:=jge ts (j0u ls (left - 1)) h1.1
  omega
theorem jge:∀ (ts:List Tm) (left:Int),-1 ≤ left→-1 ≤ j4j ts left∧j4j ts left ≤ left
 |[],left,h=>by simp only [j4j]; omega
 |t :: r,left,h=>by
  simp only [j4j]
  split
  ·omega
  ·have h1:=jcH t left (by omega)
   have h2:=jge r (cntT t left) (by omega)
   omega
end
theorem j3P (ts:List Tm) (left:Int) (h:left < 0):j4j ts left=left:=by
 cases ts <;> simp [j4j,h]
def j0T (k:Int):Int:=if k=4∨k=5∨k=6 then 2 else if k=7 then 3 else 0
def j0H (k:Int):Int:=if k=2 then 1 else 0
def j0j (k:Int):Int:=if k=0 then 0 else if k=5∨k=6 then 1 else if k=7 then 2 else -1
def j0m (binds at_ deep:Int):Int:=if at_=binds then deep + 1 else deep
def j9Y (c:UInt8):Bool:=(97 ≤ c && c ≤ 122) || (48 ≤ c && c ≤ 57) || c == 95
def j5G (s:List UInt8):Bool:=match s with
 |[]=>false
 |c :: r=>!(48 ≤ c && c ≤ 57) && (c :: r).all j9Y
def j2s:List UInt8→List UInt8→List (List UInt8)
 |acc,[]=>[acc.reverse]
 |acc,c :: r=>if c == 46 then acc.reverse :: j2s [] r else j2s (c :: acc) r
def j3U (s:List UInt8):List (List UInt8):=j2s [] s
def j2G (s:List UInt8):Bool:=decide (s.length ≤ 40) && (j3U s).all j5G
def j2Z:Tm→Int→Bool
 | .mk k n s ls _,kk=>if k=1 then decide (0 ≤ n) && (decide (n < kk) && (s == [] && decide (ls.length=0))) else if k=3 then decide (n=0) && (j2G s && decide (ls.length ≤ 4)) else decide (n=0) && (s == [] && decide ((ls.length:Int)=j0H k))
def j1m:List Lv→Int→Bool
 |[],_=>true
 |l :: r,p=>j0w l p && j1m r p
mutual
def allT:Tm→Int→Int→Bool
 | .mk k n s ls ts,p,kk=>(decide (1 ≤ k) && decide (k ≤ 7)) && (decide ((ts.length:Int)=j0T k) && (j2Z (.mk k n s ls ts) kk && (j1m ls p && j0J ts k 0 p kk)))
def j0J:List Tm→Int→Int→Int→Int→Bool
 |[],_,_,_,_=>true
 |t :: r,k,i,p,kk=>allT t p (j0m (j0j k) i kk) && j0J r k (i + 1) p kk
end
def j0L (t:Tm) (p kk:Int):Bool:=decide (0 ≤ p) && (decide (p ≤ 4) && (decide (0 ≤ kk) && (decide (j0x t ≤ 2000) && allT t p (min kk 1125899906842624))))
mutual
def depT:Tm→Nat
 | .mk _ _ _ _ ts=>jam ts + 1
def jam:List Tm→Nat
 |[]=>0
 |t :: r=>max (depT t) (jam r)
end
theorem j7e:∀ {ts:List Tm} {t:Tm},t ∈ ts→depT t ≤ jam ts
 |x :: r,t,h=>by
  rw [jam]
  rcases List.mem_cons.1 h with rfl|h
  ·omega
  ·have:=j7e h
   omega
mutual
theorem jgm:∀ (t:Tm) (left:Int),0 ≤ left→0 ≤ cntT t left→(depT t:Int) ≤ left
 | .mk _ _ _ ls ts,left,h,hc=>by
  simp only [cntT] at hc
  rw [depT]
  have h1:=j3G ls (left - 1) (by omega)
  have h2:=je5 ts (j0u ls (left - 1)) h1.1 hc
  omega
theorem je5:∀ (ts:List Tm) (left:Int),-1 ≤ left→0 ≤ j4j ts left→(jam ts:Int) ≤ left
 |[],left,h,hc=>by simp only [j4j] at hc; simp [jam,hc]
 |t :: r,left,h,hc=>by
  simp only [j4j] at hc
  split at hc
  ·omega
  ·rename_i h0
   have h1:=jcH t left (by omega)
   have h2:=je5 r (cntT t left) (by omega) hc
   have h3:0 ≤ cntT t left:=by
    by_cases h4:cntT t left < 0
    ·rw [j3P r _ h4] at hc
     omega
    ·omega
   have h4:=jgm t left (by omega) h3
   rw [jam]
   omega
end
theorem jdT {t:Tm} (h:j0x t ≤ 2000):depT t ≤ 2000:=by
 unfold j0x at h
 have:=jgm t 2000 (by omega) (by omega)
 omega
def jpL:Tm→List Tm→Tm × List Tm
 | .mk 4 n s ls [f,x],acc=>jpL f (x :: acc)
 |t,acc=>(t,acc)
open Go
def j5R (parts:List (List UInt8)):List UInt8:=[40] ++ Lib.join parts [32] ++ [41]
def jlI (k:Int):List UInt8:=if k=3 then [43] else if k=4 then [124] else if k=5 then [63] else []
def jkM (k:Int):List UInt8:=if k=5 then [92] else if k=6 then [62] else if k=7 then [61] else []
mutual
def j4I:Lv→List UInt8
 | .mk k n ls=>if k=1 then Lib.itoa n else if k=2 then [117] ++ Lib.itoa n else j5R (jlI k :: j3e ls)
def j3e:List Lv→List (List UInt8)
 |[]=>[]
 |l :: r=>j4I l :: j3e r
end
def jqd (l:Lv):List UInt8:=if j0w l 4=true then j4I l else []
mutual
def txT:Tm→List UInt8 × List (List UInt8)
 | .mk k n s ls ts =>
  let cs:=txTs ts
  if k=4 then
   let parts:=(cs.getD 0 ([],[])).2 ++ [(cs.getD 1 ([],[])).1]
   (j5R parts,parts)
  else
   let t:=if k=1 then [35] ++ Lib.itoa n else if k=2 then j5R [[42],j4I (ls.getD 0 (.mk 0 0 []))] else if k=3 then (if ls.length=0 then s else j5R ([64] :: s :: j3e ls)) else j5R (jkM k :: cs.map (·.1))
   (t,[t])
def txTs:List Tm→List (List UInt8 × List (List UInt8))
 |[]=>[]
 |t :: r=>txT t :: txTs r
end
def jqs (t:Tm):List UInt8:=if j0L t 4 1125899906842624=true then (txT t).1 else []
def jqC (c:UInt8):Bool:=c == 32 || c == 40 || c == 41
def jiJ:List UInt8→List UInt8 × List UInt8
 |[]=>([],[])
 |c :: r=>if jqC c then ([],c :: r) else ((c :: (jiJ r).1),(jiJ r).2)
def numF (s:List UInt8):Option Int:=if s=[] then none else if s.length ≤ 18∧s.all (fun c=>48 ≤ c && c ≤ 57) then some (s.foldl (fun a c=>a * 10 + ((c.toNat:Int) - 48)) 0) else none
def jqB (s:List UInt8):Int:=if s=[43] then 3 else if s=[124] then 4 else if s=[63] then 5 else 0
mutual
def jo3:Nat→List UInt8→Option (Lv × List UInt8)
 |0,_=>none
 |fuel + 1,s=>match s with
  |[]=>none
  |40 :: r =>
   let w:=jiJ r
   match jfG fuel w.2 with
   |some (ls,41 :: r')=>some (.mk (jqB w.1) 0 ls,r')
   |_=>none
  |s =>
   let w:=jiJ s
   match w.1 with
   |117 :: d=>(numF d).map fun n=>(.mk 2 n [],w.2)
   |d=>(numF d).map fun n=>(.mk 1 n [],w.2)
def jfG:Nat→List UInt8→Option (List Lv × List UInt8)
 |0,_=>none
 |fuel + 1,s=>match s with
  |32 :: r=>match jo3 fuel r with
   |some (l,r')=>(jfG fuel r').map fun p=>(l :: p.1,p.2)
   |none=>none
  |s=>some ([],s)
end
def jlk (s:List UInt8):Int:=if s=[92] then 5 else if s=[62] then 6 else if s=[61] then 7 else 0
def appF (f:Tm):List Tm→Tm
 |[]=>f
 |x :: r=>appF (.mk 4 0 [] [] [f,x]) r
mutual
def jj9:Nat→List UInt8→Option (Tm × List UInt8)
 |0,_=>none
 |fuel + 1,s=>match s with
  |[]=>none
  |40 :: r=>match jq3 fuel r with
   |some (t,41 :: r')=>some (t,r')
   |_=>none
  |s =>
   let w:=jiJ s
   match w.1 with
   |35 :: d=>(numF d).map fun n=>(.mk 1 n [] [] [],w.2)
   |d=>some (.mk 3 0 d [] [],w.2)
def jq3:Nat→List UInt8→Option (Tm × List UInt8)
 |0,_=>none
 |fuel + 1,s=>match s with
  |42 :: 32 :: r=>(jo3 fuel r).map fun p=>(.mk 2 0 [] [p.1] [],p.2)
  |64 :: 32 :: r=>let w:=jiJ r
   (jfG fuel w.2).map fun p=>(.mk 3 0 w.1 p.1 [],p.2)
  |c :: 32 :: r=>if jlk [c]=0 then (match jj9 fuel (c :: 32 :: r) with
    |some (t,r')=>(jbA fuel r').map fun p=>(appF t p.1,p.2)
    |none=>none)
   else (jbA fuel (32 :: r)).map fun p=>(.mk (jlk [c]) 0 [] [] p.1,p.2)
  |s=>match jj9 fuel s with
    |some (t,r')=>(jbA fuel r').map fun p=>(appF t p.1,p.2)
    |none=>none
def jbA:Nat→List UInt8→Option (List Tm × List UInt8)
 |0,_=>none
 |fuel + 1,s=>match s with
  |32 :: r=>match jj9 fuel r with
   |some (t,r')=>(jbA fuel r').map fun p=>(t :: p.1,p.2)
   |none=>none
  |s=>some ([],s)
end
open Go
theorem j7z:∀ ls:List Lv,j3e ls=ls.map j4I
 |[]=>rfl
 |l :: r=>by rw [j3e,j7z r]; rfl
theorem je1 (xs:List (List UInt8)):(j5R xs).length=(Lib.join xs [32]).length + 2:=by simp [j5R]
theorem jmI {k n:Int} {ls:List Lv} (h:allF (.mk k n ls) 4=true) (h1:¬ k=1) (h2:¬ k=2):(3 ≤ k∧k ≤ 5)∧0 < ls.length∧ls.length ≤ 2:=by
 rw [allF,Bool.and_eq_true] at h
 have h:=h.1
 rw [j8k] at h
 split at h
 ·rename_i hw
  unfold jd8 at hw
  split at hw <;> (try split at hw) <;> (try split at hw) <;> (try split at hw) <;> omega
 ·cases h
mutual
theorem jlc:∀ (l:Lv),allF l 4=true→(j4I l).length ≤ 30 * j0C l
 | .mk k n ls,h=>by
  have h0:=h
  rw [allF,Bool.and_eq_true] at h
  rw [j4I,j0C]
  by_cases h1:k=1
  ·subst h1
   rw [if_pos rfl]
   have hn:0 ≤ n∧n ≤ 100:=by
    have h:=h.1
    rw [j8k] at h
    split at h <;> simp at h
    exact h
   have:=Lib.itoa_length_le n (by omega) (by omega)
   omega
  ·rw [if_neg h1]
   by_cases h2:k=2
   ·subst h2
    rw [if_pos rfl]
    have hn:0 ≤ n∧n < 4:=by
     have h:=h.1
     rw [j8k] at h
     split at h <;> simp at h
     exact h
    have:=Lib.itoa_length_le n (by omega) (by omega)
    simp
    omega
   ·rw [if_neg h2]
    have hk:=jmI h0 h1 h2
    have hs:=jaU ls h.2
    have h3:(jlI k).length ≤ 1:=by unfold jlI; split <;> (try split) <;> (try split) <;> simp
    rw [je1,Lib.join_length,j7z]
    rw [j7z] at hs
    have h4:Lib.lens (jlI k :: ls.map j4I)=(jlI k).length + Lib.lens (ls.map j4I):=by simp [Lib.lens]
    rw [h4]
    simp
    omega
theorem jaU:∀ (ls:List Lv),j3A ls 4=true→Lib.lens (j3e ls) ≤ 30 * j0c ls
 |[],_=>by simp [j3e,Lib.lens]
 |l :: r,h=>by
  rw [j3A,Bool.and_eq_true] at h
  have h1:=jlc l h.1
  have h2:=jaU r h.2
  have h4:Lib.lens (j4I l :: j3e r)=(j4I l).length + Lib.lens (j3e r):=by simp [Lib.lens]
  rw [j3e,j0c,h4]
  omega
end
mutual
def jqw:Tm→Bool
 | .mk k _ _ _ ts=>decide (k ≠ 4) && jnW ts
def jnW:List Tm→Bool
 |[]=>true
 |t :: r=>jqw t && jnW r
end
mutual
def txN:Tm→List UInt8
 | .mk k n s ls ts=>if k=1 then [35] ++ Lib.itoa n else if k=2 then j5R [[42],j4I (ls.getD 0 (.mk 0 0 []))] else if k=3 then (if ls.length=0 then s else j5R ([64] :: s :: j3e ls)) else j5R (jkM k :: txNs ts)
def txNs:List Tm→List (List UInt8)
 |[]=>[]
 |t :: r=>txN t :: txNs r
end
def jr1 (t:Tm):List UInt8:=if j0L t 4 1125899906842624=true then txN t else []
end Go.Gw
namespace Go.Am
open Go
inductive FindsY (C:Cfg) (args:List PV) (st:Sto) (Q:AEnd→Sto→Prop):Prop where
 |mk (r:AEnd) (st':Sto) (hq:Q r st') (N:Nat) (h:∀ n,N ≤ n→(ev C n).yield args st=some (r,st'))
section
variable {C:Cfg}
theorem j9a {args:List PV} {st:Sto} {Q Q':AEnd→Sto→Prop} (h:FindsY C args st Q) (hq:∀ r st',Q r st'→Q' r st'):FindsY C args st Q':=by
 obtain ⟨r,st',h1,N,h2⟩:=h
 exact ⟨r,st',hq _ _ h1,N,h2⟩
def je2 (id k0:Nat) (Q:AEnd→Sto→Prop):AX→AEnv→Sto→Prop:=fun x _ s2=>match s2[id]? with
 |some (.lp ρ2 ps2 a2 b2 .busy)=>match x with
  | .normal=>Q (.ret [.sc (.bool true)]) (j1z k0 (s2.set id (.lp ρ2 ps2 a2 b2 .ready)))
  | .ret=>Q (.ret [.sc (.bool false)]) (j1z k0 (s2.set id (.lp ρ2 ps2 a2 b2 (.done none))))
  | .exit i=>Q (.ret [.sc (.bool false)]) (j1z k0 (s2.set id (.lp ρ2 ps2 a2 b2 (.done (some i)))))
  | .pan _=>False
 |_=>False
theorem j9u {id:Nat} {vs:List PV} {st:Sto} {ρ:AEnv} {ps:List Nat} {a b:Code} {Q:AEnd→Sto→Prop} (hlp:st[id]? = some (.lp ρ ps a b .ready)) (hn:(Nat.beq vs.length ps.length && (j0Q a && j0Q b))=true)
  (h:VC C a (jfU ps vs ρ) st fun x ρ1 s1=>match x with
   | .normal=>match s1[id]? with
    |some (.lp ρ' ps' a' b' .ready)=>VC C b ρ1 (s1.set id (.lp ρ' ps' a' b' .busy)) (je2 id st.length Q)
    |_=>False
   |_=>False):FindsY C (.yl id :: vs) st Q:=by
 obtain ⟨x,s1,hk,N,hN⟩:=jdn h
 cases x with
 |normal =>
  simp only at hk
  split at hk
  ·rename_i ρ' ps' a' b' h1
   obtain ⟨x2,s2,hk2,N2,hN2⟩:=jdn hk
   unfold je2 at hk2
   split at hk2
   ·rename_i ρ2 ps2 a2 b2 h2
    have main:∃ r st',Q r st'∧(match x2 with
      | .normal=>some (AEnd.ret [.sc (.bool true)],j1z st.length (s2.st.set id (.lp ρ2 ps2 a2 b2 .ready)))
      | .ret=>some (AEnd.ret [.sc (.bool false)],j1z st.length (s2.st.set id (.lp ρ2 ps2 a2 b2 (.done none))))
      | .exit i=>some (AEnd.ret [.sc (.bool false)],j1z st.length (s2.st.set id (.lp ρ2 ps2 a2 b2 (.done (some i)))))
      | .pan _=>none)=some (r,st'):=by
     cases x2 with
     |normal=>exact ⟨_,_,hk2,rfl⟩
     |ret=>exact ⟨_,_,hk2,rfl⟩
     |exit i=>exact ⟨_,_,hk2,rfl⟩
     |pan v=>exact hk2.elim
    obtain ⟨r,st',hq,hr⟩:=main
    refine ⟨r,st',hq,max N N2 + 1,fun n hn'=>?_⟩
    obtain ⟨m,rfl⟩:∃ m,n=m + 1:=⟨n - 1,by omega⟩
    show j8j C (ev C m) (.yl id :: vs) st=_
    simp only [j8j,hlp,hn,hN m (by omega),h1,hN2 m (by omega),h2]
    rw [← hr]
    cases x2 <;> rfl
   ·exact hk2.elim
  ·exact hk.elim
 |_=>exact hk.elim
theorem jo2 {id:Nat} {vs vs' args0:List PV} {st st0 st1:Sto} {π:List Nat} {K:AR→Prop} (hw:pubL C vs st=some (vs',st1)) (hπ:(close st1 64 ((PV.yl id :: vs').flatMap (ids 8)) []).reverse=π)
  (hi:(PV.yl id :: vs').all (j0g (fun i=>π.elem i) 8)=true) (hf:fetch (fun i=>place i 0 π) (fun i=>π.elem i) st1 π=some st0) (ha:(PV.yl id :: vs').map (j1a (fun i=>place i 0 π) 8)=args0)
  (h:FindsY C args0 st0 fun r st2=>VBack π st1 r st2 fun r st'=>match r with
   | .ret rs=>K (.val (retV rs) st')
   | .pan _=>False):VYield C id vs st K:=by
 obtain ⟨r,st2,⟨r',st',h1,h2⟩,N,hN⟩:=h
 cases r' with
 |ret rs =>
  refine ⟨_,h2,N,fun n hn=>?_⟩
  simp only [jdL,hw,hπ,j3E,hi,hf,ha,hN n hn,h1]
 |pan v=>exact h2.elim
end
open Go
def Sh (o:SO) (l:List Nat):Prop:=j6K o=l∧∀ f:Nat→Bool,(∀ i ∈ l,f i=true)→soIn f o=true
def ShL:Sto→List (List Nat)→Prop
 |[],L=>L=[]
 |o :: r,L=>∃ l L',L=l :: L'∧Sh o l∧ShL r L'
theorem ShL.nil:ShL [] []:=rfl
theorem ShL.cons {o:SO} {l:List Nat} {r:Sto} {L:List (List Nat)} (h:Sh o l) (k:ShL r L):ShL (o :: r) (l :: L):=⟨l,L,rfl,h,k⟩
theorem j5s {f g:Nat→Bool} (h:∀ i,f i=true→g i=true):∀ {n:Nat} {x:PV},j0g f n x=true→j0g g n x=true
 |0,x,hx=>by simp [j0g] at hx
 |n + 1,x,hx=>by
  have hall:∀ {l:List PV},l.all (j0g f n)=true→l.all (j0g g n)=true:=fun hl=>List.all_eq_true.2 fun y hy=>j5s h (List.all_eq_true.1 hl y hy)
  cases x with
  |ag cs=>simp only [j0g] at hx ⊢; exact hall hx
  |tu cs=>simp only [j0g] at hx ⊢; exact hall hx
  |ci cs=>simp only [j0g] at hx ⊢; exact hall hx
  |fn q a b=>simp only [j0g,Bool.and_eq_true] at hx ⊢; exact ⟨hall hx.1,hall hx.2⟩
  |ifc t x=>simp only [j0g] at hx ⊢; exact j5s h hx
  |ms id len=>simp only [j0g] at hx ⊢; exact h _ hx
  |bp id off=>simp only [j0g] at hx ⊢; exact h _ hx
  |yl id=>simp only [j0g] at hx ⊢; exact h _ hx
  |mr id=>simp only [j0g] at hx ⊢; exact h _ hx
  |cr id=>simp only [j0g] at hx ⊢; exact h _ hx
  |rp id len i off=>simp only [j0g] at hx ⊢; exact h _ hx
  |_=>rfl
theorem j06 {T:TypeId} {cs:List PV} {l:List Nat} (h1:cs.flatMap (ids 8)=l) (h2:cs.all (j0g (fun j=>l.elem j) 8)=true):Sh (.box T cs) l :=
 ⟨h1,fun f hf=>List.all_eq_true.2 fun x hx=>j5s (fun i hi=>hf i (by simpa using hi)) (List.all_eq_true.1 h2 x hx)⟩
theorem j0e {b:Bool} {T:TypeId} {z:Nat} {cs:List PV} (h:cs.all (pur 8)=true):Sh (.row b T z cs) []:=by
 rw [List.all_eq_true] at h
 have key:∀ {n:Nat} {x:PV},pur n x=true→ids n x=[]∧∀ f,j0g f n x=true:=by
  intro n
  induction n with
  |zero=>intro x hx; simp [pur] at hx
  |succ n ih =>
   intro x hx
   have hall:∀ {l:List PV},l.all (pur n)=true→l.flatMap (ids n)=[]∧∀ f,l.all (j0g f n)=true:=fun {l} hl=>by
    rw [List.all_eq_true] at hl
    exact ⟨by rw [List.flatMap_eq_nil_iff]; exact fun y hy=>(ih (hl y hy)).1,fun f=>List.all_eq_true.2 fun y hy=>(ih (hl y hy)).2 f⟩
   cases x with
   |ag cs=>simp only [pur] at hx; exact hall hx
   |tu cs=>simp only [pur] at hx; exact hall hx
   |fn f a b =>
    simp only [pur,Bool.and_eq_true] at hx
    refine ⟨by simp only [ids,(hall hx.1).1,(hall hx.2).1,List.append_nil],fun f=>by simp only [j0g,(hall hx.1).2 f,(hall hx.2).2 f,Bool.and_self]⟩
   |ifc t x =>
    simp only [pur] at hx
    show ids n x=[]∧∀ f,j0g f n x=true
    exact ih hx
   |_=>first|(simp [pur] at hx; done)|exact ⟨rfl,fun _=>rfl⟩
 exact ⟨by simp only [j6K]; rw [List.flatMap_eq_nil_iff]; exact fun y hy=>(key (h y hy)).1,fun f _=>List.all_eq_true.2 fun y hy=>(key (h y hy)).2 f⟩
theorem j0o:Sh .dead []:=⟨rfl,fun _ _=>rfl⟩
def j8h (L:List (List Nat)):Nat→List Nat→List Nat→List Nat
 |0,_,acc=>acc
 |n + 1,work,acc=>match work with
  |[]=>acc
  |i :: r=>match acc.elem i with
   |true=>j8h L n r acc
   |false=>j8h L n (r ++ (match L[i]? with
    |some l=>l
    |none=>[])) (i :: acc)
theorem ShL.at_:∀ {st:Sto} {L:List (List Nat)},ShL st L→∀ (i:Nat),(∃ o l,st[i]? = some o∧L[i]? = some l∧Sh o l)∨(st[i]? = none∧L[i]? = none)
 |[],L,h,i=>by
  have h:L=[]:=h
  subst h
  exact .inr ⟨by simp,by simp⟩
 |o :: r,L,h,i=>by
  obtain ⟨l,L',rfl,h1,h2⟩:=h
  cases i with
  |zero=>exact .inl ⟨o,l,rfl,rfl,h1⟩
  |succ i=>simpa using ShL.at_ h2 i
theorem j5E {st:Sto} {L:List (List Nat)} (h:ShL st L):∀ (n:Nat) (work acc:List Nat),close st n work acc=j8h L n work acc
 |0,_,_=>rfl
 |n + 1,[],_=>rfl
 |n + 1,i :: r,acc=>by
  simp only [close,j8h]
  cases hb:acc.elem i with
  |true=>exact j5E h n _ _
  |false =>
   rcases h.at_ i with ⟨o,l,h1,h2,h3⟩|⟨h1,h2⟩
   ·rw [h1,h2]
    simp only [h3.1]
    exact j5E h n _ _
   ·rw [h1,h2]
    exact j5E h n _ _
theorem ShL.take:∀ {st:Sto} {L:List (List Nat)} {k:Nat},ShL st L→(st.take k).flatMap j6K=(L.take k).flatten
 |[],L,k,h=>by
  have h:L=[]:=h
  subst h
  simp
 |o :: r,L,0,h=>by simp
 |o :: r,L,k + 1,h=>by
  obtain ⟨l,L',rfl,h1,h2⟩:=h
  simp only [List.take_succ_cons,List.flatMap_cons,List.flatten_cons,h1.1,ShL.take h2]
theorem ShL.soIn {f:Nat→Bool}:∀ {st:Sto} {L:List (List Nat)},ShL st L→L.all (fun l=>l.all f)=true→st.all (soIn f)=true
 |[],_,_,_=>rfl
 |o :: r,L,h,hf=>by
  obtain ⟨l,L',rfl,h1,h2⟩:=h
  simp only [List.all_cons,Bool.and_eq_true] at hf
  simp only [List.all_cons,Bool.and_eq_true]
  exact ⟨h1.2 f fun i hi=>List.all_eq_true.1 hf.1 i hi,ShL.soIn h2 hf.2⟩
theorem j1b {k0:Nat} {ρ:AEnv} {st st':Sto} {L L':List (List Nat)} {acc:List Nat} (h:ShL st L) (h':ShL st' L') (hb:Nat.beq st.length k0=false) (hacc:j8h L 64 (ρ.flatMap (fun p=>ids 8 p.2) ++ (L.take k0).flatten) []=acc) (hs:trim k0 (sweep k0 acc 0 st)=st')
  (hρ:ρ.all (fun p=>j0g (fun i=>Nat.blt i st'.length) 8 p.2)=true) (hL:L'.all (fun l=>l.all fun i=>Nat.blt i st'.length)=true):gc k0 ρ st=st':=by
 unfold gc
 simp only [hb,j5E h,h.take,hacc,hs,hρ,h'.soIn hL,Bool.and_self]
theorem j0s {C:Cfg} {f:FuncId} {rs rs':List PV} {st st':Sto} {Q:AEnd→Sto→Prop} (hk:C.keep f=false) (hp:pubL C rs st=some (rs',st')) (hr:rs'.all (pur 8)=true) (k:Q (.ret rs') []):VRet C f 0 rs st Q:=by
 refine ⟨rs',[],?_,k⟩
 simp only [aret,hk,hp,hr]
 rfl
theorem j08 {f:PV→Sto→Option (PV × Sto)} {x y:PV} {l l':List PV} {st st1 st2:Sto} (h:f x st=some (y,st1)) (k:mapS f l st1=some (l',st2)):mapS f (x :: l) st=some (y :: l',st2):=by
 simp only [mapS,h,k]
theorem j0n {f:PV→Sto→Option (PV × Sto)} {st:Sto}:mapS f [] st=some ([],st):=rfl
theorem j0E {C:Cfg} {n i len:Nat} {b:Bool} {T:TypeId} {z:Nat} {xs:List PV} {st:Sto} (hst:st[i]? = some (.row b T z xs)) (hn:len=xs.length) (hp:xs.all (pur 6)=true):pubV C (n + 1) (.ms i len) st=some (.sl false z xs,st.set i (.row true T z xs)):=by
 have:(Nat.beq len xs.length && xs.all (pur 6))=true:=by rw [hp,hn,Nat.beq_refl]; rfl
 simp only [pubV,pubRow,hst,this]
theorem j4v {C:Cfg} {n:Nat} {cs cs':List PV} {st st':Sto} (h:mapS (pubV C n) cs st=some (cs',st')):pubV C (n + 1) (.ag cs) st=some (.ag cs',st'):=by
 simp only [pubV,h]
end Go.Am
namespace Go.Gw
open Go
mutual
def eqLv:Lv→Lv→Bool
 | .mk k n ls,.mk k' n' ls'=>decide (k=k') && (decide (n=n') && (decide (ls.length=ls'.length) && jaw ls ls'))
def jaw:List Lv→List Lv→Bool
 |l :: r,m :: s=>eqLv l m && jaw r s
 |_,_=>true
end
mutual
theorem jp1:∀ (l m:Lv),eqLv l m=true↔l=m
 | .mk k n ls,.mk k' n' ls'=>by
  simp only [eqLv,Bool.and_eq_true,decide_eq_true_eq,Lv.mk.injEq]
  constructor
  ·rintro ⟨h1,h2,h3,h4⟩
   exact ⟨h1,h2,(j6u ls ls' h3).1 h4⟩
  ·rintro ⟨rfl,rfl,rfl⟩
   exact ⟨rfl,rfl,rfl,(j6u ls ls rfl).2 rfl⟩
theorem j6u:∀ (ls ms:List Lv),ls.length=ms.length→(jaw ls ms=true↔ls=ms)
 |[],[],_=>by simp [jaw]
 |l :: r,m :: s,h=>by
  simp only [jaw,Bool.and_eq_true,List.cons.injEq]
  rw [jp1 l m,j6u r s (by simpa using h)]
 |[],_ :: _,h=>by simp at h
 |_ :: _,[],h=>by simp at h
end
mutual
def eqTm:Tm→Tm→Bool
 | .mk k n s ls ts,.mk k' n' s' ls' ts'=>decide (k=k') && (decide (n=n') && ((s == s') && (decide (ls.length=ls'.length) && (decide (ts.length=ts'.length) && (jaw ls ls' && jcs ts ts')))))
def jcs:List Tm→List Tm→Bool
 |l :: r,m :: s=>eqTm l m && jcs r s
 |_,_=>true
end
mutual
theorem jpk:∀ (l m:Tm),eqTm l m=true↔l=m
 | .mk k n s ls ts,.mk k' n' s' ls' ts'=>by
  simp only [eqTm,Bool.and_eq_true,decide_eq_true_eq,beq_iff_eq,Tm.mk.injEq]
  constructor
  ·rintro ⟨h1,h2,h3,h4,h5,h6,h7⟩
   exact ⟨h1,h2,h3,(j6u ls ls' h4).1 h6,(jbX ts ts' h5).1 h7⟩
  ·rintro ⟨rfl,rfl,rfl,rfl,rfl⟩
   exact ⟨rfl,rfl,rfl,rfl,rfl,(j6u ls ls rfl).2 rfl,(jbX ts ts rfl).2 rfl⟩
theorem jbX:∀ (ls ms:List Tm),ls.length=ms.length→(jcs ls ms=true↔ls=ms)
 |[],[],_=>by simp [jcs]
 |l :: r,m :: s,h=>by
  simp only [jcs,Bool.and_eq_true,List.cons.injEq]
  rw [jpk l m,jbX r s (by simpa using h)]
 |[],_ :: _,h=>by simp at h
 |_ :: _,[],h=>by simp at h
end
mutual
def useN:Tm→Int→Int
 | .mk _ _ s ls ts,q=>min (jkZ ts (lnFs ls (1 + ((s.length / 16:Nat):Int)) q) q) (q + 1)
def jkZ:List Tm→Int→Int→Int
 |[],acc,_=>acc
 |t :: r,acc,q=>if acc ≤ q then jkZ r (acc + useN t q) q else acc
end
mutual
def refN:Tm→Int→Int
 | .mk _ _ _ ls ts,q=>min (jc4 ts (lnFs ls 1 q) q) (q + 1)
def jc4:List Tm→Int→Int→Int
 |[],acc,_=>acc
 |t :: r,acc,q=>if acc ≤ q then jc4 r (acc + refN t q) q else acc
end
end Go.Gw
namespace Go.Am
open Go
structure Shr (o:SO) (l:List Nat) (ρ:(Nat→Nat)→SO):Prop where
 sh:Sh o l
 ren:∀ g,j3z g o=ρ g
def ShrL:Sto→List (List Nat)→List ((Nat→Nat)→SO)→Prop
 |[],L,R=>L=[]∧R=[]
 |o :: r,L,R=>∃ l L' ρ R',L=l :: L'∧R=ρ :: R'∧Shr o l ρ∧ShrL r L' R'
theorem ShrL.nil:ShrL [] [] []:=⟨rfl,rfl⟩
theorem ShrL.cons {o:SO} {l:List Nat} {ρ:(Nat→Nat)→SO} {r:Sto} {L:List (List Nat)} {R:List ((Nat→Nat)→SO)} (h:Shr o l ρ) (k:ShrL r L R):ShrL (o :: r) (l :: L) (ρ :: R):=⟨l,L,ρ,R,rfl,rfl,h,k⟩
theorem ShrL.shl:∀ {st:Sto} {L:List (List Nat)} {R:List ((Nat→Nat)→SO)},ShrL st L R→ShL st L
 |[],_,_,h=>h.1
 |o :: r,_,_,h=>by
  obtain ⟨l,L',ρ,R',rfl,rfl,h1,h2⟩:=h
  exact .cons h1.sh h2.shl
theorem j5z:∀ {n:Nat} {x:PV} {g:Nat→Nat},pur n x=true→j1a g n x=x
 |0,x,g,h=>by simp [pur] at h
 |n + 1,x,g,h=>by
  have hall:∀ {l:List PV},l.all (pur n)=true→l.map (j1a g n)=l:=fun {l} hl=>by
   rw [List.all_eq_true] at hl
   rw [List.map_congr_left (g:=id) (fun y hy=>by rw [j5z (hl y hy)]; rfl),List.map_id]
  cases x with
  |ag cs=>simp only [pur] at h; simp only [j1a,hall h]
  |tu cs=>simp only [pur] at h; simp only [j1a,hall h]
  |fn f a b=>simp only [pur,Bool.and_eq_true] at h; simp only [j1a,hall h.1,hall h.2]
  |ifc t x=>simp only [pur] at h; simp only [j1a,j5z h]
  |_=>first|(simp [pur] at h; done)|rfl
theorem jqA {ρ:AEnv} {ps:List Nat} {a b:Code} {s:LpS} {l:List Nat} (h1:ρ.flatMap (fun p=>ids 8 p.2)=l) (h2:ρ.all (fun p=>j0g (fun j=>l.elem j) 8 p.2)=true):Sh (.lp ρ ps a b s) l :=
 ⟨h1,fun f hf=>List.all_eq_true.2 fun x hx=>j5s (fun i hi=>hf i (by simpa using hi)) (List.all_eq_true.1 h2 x hx)⟩
theorem j1n {T:TypeId} {cs:List PV} {l:List Nat} (h1:cs.flatMap (ids 8)=l) (h2:cs.all (j0g (fun j=>l.elem j) 8)=true):Shr (.box T cs) l (fun g=>.box T (cs.map (j1a g 8))):=⟨j06 h1 h2,fun _=>rfl⟩
theorem jgu {ρ:AEnv} {ps:List Nat} {a b:Code} {s:LpS} {l:List Nat} (h1:ρ.flatMap (fun p=>ids 8 p.2)=l) (h2:ρ.all (fun p=>j0g (fun j=>l.elem j) 8 p.2)=true):Shr (.lp ρ ps a b s) l (fun g=>.lp (ρ.map fun p=>(p.1,j1a g 8 p.2)) ps a b s):=⟨jqA h1 h2,fun _=>rfl⟩
theorem jbN:Shr .dead [] (fun _=>.dead):=⟨j0o,fun _=>rfl⟩
theorem j1T {b:Bool} {T:TypeId} {z:Nat} {cs:List PV} (h:cs.all (pur 8)=true):Shr (.row b T z cs) [] (fun _=>.row b T z cs):=by
 refine ⟨j0e h,fun g=>?_⟩
 rw [List.all_eq_true] at h
 simp only [j3z]
 congr 1
 rw [List.map_congr_left (g:=id) (fun y hy=>by rw [j5z (h y hy)]; rfl),List.map_id]
theorem ShrL.get:∀ {st:Sto} {L:List (List Nat)} {R:List ((Nat→Nat)→SO)},ShrL st L R→∀ {i:Nat} {l:List Nat} {ρ:(Nat→Nat)→SO},L[i]? = some l→R[i]? = some ρ→∃ o,st[i]? = some o∧Shr o l ρ
 |[],_,_,h,i,l,ρ,h1,h2=>by rw [h.1] at h1; simp at h1
 |o :: r,_,_,h,i,l,ρ,h1,h2=>by
  obtain ⟨l0,L',ρ0,R',rfl,rfl,h3,h4⟩:=h
  cases i with
  |zero=>simp at h1 h2; subst h1; subst h2; exact ⟨o,rfl,h3⟩
  |succ i=>simpa using h4.get (i:=i) (by simpa using h1) (by simpa using h2)
def j8H (L:List (List Nat)) (R:List ((Nat→Nat)→SO)) (g:Nat→Nat) (f:Nat→Bool):List Nat→Option Sto
 |[]=>some []
 |i :: π=>match L[i]?,R[i]? with
  |some l,some ρ=>match l.all f with
   |true=>match j8H L R g f π with
    |some r=>some (ρ g :: r)
    |none=>none
   |false=>none
  |_,_=>none
theorem j6w {st:Sto} {L:List (List Nat)} {R:List ((Nat→Nat)→SO)} (h:ShrL st L R) {g:Nat→Nat} {f:Nat→Bool}:∀ {π:List Nat} {st0:Sto},j8H L R g f π=some st0→fetch g f st π=some st0
 |[],st0,hx=>by
  simp only [j8H,Option.some.injEq] at hx
  subst hx
  rfl
 |i :: π,st0,hx=>by
  unfold j8H at hx
  split at hx
  ·rename_i l ρ h1 h2
   split at hx
   ·rename_i hl
    split at hx
    ·rename_i r hr
     cases hx
     obtain ⟨o,h3,h4⟩:=h.get h1 h2
     have ih:=j6w h hr
     have hso:soIn f o=true:=h4.sh.2 f fun i hi=>List.all_eq_true.1 hl i hi
     unfold fetch at ih ⊢
     simp only [mapO,h3,hso,h4.ren,ih]
    ·cases hx
   ·cases hx
  ·cases hx
def putR (g:Nat→Nat):List Nat→List ((Nat→Nat)→SO)→Sto→Sto
 |i :: π,ρ :: R,st=>putR g π R (st.set i (ρ g))
 |_,_,st=>st
theorem jaM {g:Nat→Nat}:∀ {π:List Nat} {os st:Sto} {L:List (List Nat)} {R:List ((Nat→Nat)→SO)},ShrL os L R→j1D g π os st=putR g π R st
 |[],os,st,L,R,h=>by cases R <;> simp [j1D,putR]
 |i :: π,[],st,L,R,h=>by rw [h.2]; simp [j1D,putR]
 |i :: π,o :: os,st,L,R,h=>by
  obtain ⟨l0,L',ρ0,R',rfl,rfl,h3,h4⟩:=h
  simp only [j1D,putR,h3.ren,jaM h4]
theorem ShrL.map {g:Nat→Nat}:∀ {st:Sto} {L:List (List Nat)} {R:List ((Nat→Nat)→SO)},ShrL st L R→st.map (j3z g)=R.map fun ρ=>ρ g
 |[],_,_,h=>by rw [h.2]; rfl
 |o :: r,_,_,h=>by
  obtain ⟨l0,L',ρ0,R',rfl,rfl,h3,h4⟩:=h
  simp only [List.map_cons,h3.ren,h4.map]
theorem ShrL.drop:∀ {st:Sto} {L:List (List Nat)} {R:List ((Nat→Nat)→SO)} (k:Nat),ShrL st L R→ShrL (st.drop k) (L.drop k) (R.drop k)
 |_,_,_,0,h=>by simpa using h
 |[],_,_,k + 1,h=>by rw [h.1,h.2]; exact .nil
 |o :: r,_,_,k + 1,h=>by
  obtain ⟨l0,L',ρ0,R',rfl,rfl,h3,h4⟩:=h
  simpa using h4.drop k
theorem ShL.get:∀ {st:Sto} {L:List (List Nat)},ShL st L→∀ {i:Nat} {o:SO},st[i]? = some o→∃ l,L[i]? = some l∧Sh o l
 |[],_,h,i,o,h1=>by simp at h1
 |q :: r,_,h,i,o,h1=>by
  obtain ⟨l,L',rfl,h2,h3⟩:=h
  cases i with
  |zero=>simp at h1; subst h1; exact ⟨l,rfl,h2⟩
  |succ i=>simpa using h3.get (i:=i) (by simpa using h1)
section
variable {C:Cfg}
theorem jeC {f:FuncId} {args args' args0:List PV} {st st0 st1:Sto} {L:List (List Nat)} {R:List ((Nat→Nat)→SO)} {π:List Nat} {K:AEnd→Sto→Prop} (hw:handed C f args st=some (args',st1)) (hp:args'.all (pur 8)=false) (hs:ShrL st1 L R) (hπ:(j8h L 64 (args'.flatMap (ids 8)) []).reverse=π)
  (hi:args'.all (j0g (fun i=>π.elem i) 8)=true) (hf:j8H L R (fun i=>place i 0 π) (fun i=>π.elem i) π=some st0) (ha:args'.map (j1a (fun i=>place i 0 π) 8)=args0)
  (h:Finds C f args0 st0 fun r st2=>VBack π st1 r st2 K):VCall C f args st K :=
 j0A hw hp (by rw [j5E hs.shl]; exact hπ) hi (j6w hs hf) ha h
theorem jiT {id:Nat} {vs vs' args0:List PV} {st st0 st1:Sto} {L:List (List Nat)} {R:List ((Nat→Nat)→SO)} {π:List Nat} {K:AR→Prop} (hw:pubL C vs st=some (vs',st1)) (hs:ShrL st1 L R) (hπ:(j8h L 64 ((PV.yl id :: vs').flatMap (ids 8)) []).reverse=π)
  (hi:(PV.yl id :: vs').all (j0g (fun i=>π.elem i) 8)=true) (hf:j8H L R (fun i=>place i 0 π) (fun i=>π.elem i) π=some st0) (ha:(PV.yl id :: vs').map (j1a (fun i=>place i 0 π) 8)=args0)
  (h:FindsY C args0 st0 fun r st2=>VBack π st1 r st2 fun r st'=>match r with
   | .ret rs=>K (.val (retV rs) st')
   | .pan _=>False):VYield C id vs st K :=
 jo2 hw (by rw [j5E hs.shl]; exact hπ) hi (j6w hs hf) ha h
theorem jei {π:List Nat} {st st1:Sto} {L:List (List Nat)} {R:List ((Nat→Nat)→SO)} {r:AEnd} {K:AEnd→Sto→Prop} (hs:ShrL st1 L R) (hi:(jcY (fun j=>Nat.blt j st1.length) r && L.all (fun l=>l.all fun j=>Nat.blt j st1.length))=true)
  (k:K (j4V (back π st.length) r) (putR (back π st.length) π R st ++ (R.drop π.length).map (fun ρ=>ρ (back π st.length)))):VBack π st r st1 K:=by
 rw [Bool.and_eq_true] at hi
 refine j1K (by rw [hi.1,hs.shl.soIn hi.2]; rfl) ?_
 rw [jaM hs,(hs.drop π.length).map]
 exact k
def fpv (v:PV) (k:PV→Prop):Prop:=match v with
 | .sc x=>k (.sc x)
 | .sl b z xs=>k (.sl b z xs)
 | .ms i n=>k (.ms i n)
 |v=>k v
theorem jq4 {v:PV} {k:PV→Prop}:fpv v k↔k v:=by cases v <;> exact Iff.rfl
def fpvs:List PV→(List PV→Prop)→Prop
 |[],k=>k []
 |v :: r,k=>fpv v fun v'=>fpvs r fun r'=>k (v' :: r')
theorem jjf:∀ {cs:List PV} {k:List PV→Prop},fpvs cs k↔k cs
 |[],_=>Iff.rfl
 |v :: r,k=>by
  unfold fpvs
  rw [jq4]
  exact jjf (cs:=r) (k:=fun r'=>k (v :: r'))
def fso (o:SO) (k:SO→Prop):Prop:=match o with
 | .box T cs=>fpvs cs fun cs'=>k (.box T cs')
 | .lp ρ ps a b s=>k (.lp ρ ps a b s)
 | .row p e z xs=>k (.row p e z xs)
 | .frz cs=>k (.frz cs)
 | .mp ks vs=>k (.mp ks vs)
 | .ch c q=>k (.ch c q)
 | .dead=>k .dead
theorem jq6 {o:SO} {k:SO→Prop}:fso o k↔k o:=by
 cases o with
 |box T cs=>exact jjf (cs:=cs) (k:=fun cs'=>k (.box T cs'))
 |_=>exact Iff.rfl
def fsto:Sto→(Sto→Prop)→Prop
 |[],k=>k []
 |o :: r,k=>fso o fun o'=>fsto r fun r'=>k (o' :: r')
theorem jjm:∀ {st:Sto} {k:Sto→Prop},fsto st k↔k st
 |[],_=>Iff.rfl
 |o :: r,k=>by
  unfold fsto
  rw [jq6]
  exact jjm (st:=r) (k:=fun r'=>k (o :: r'))
theorem j5k {π:List Nat} {st st1:Sto} {L:List (List Nat)} {R:List ((Nat→Nat)→SO)} {r:AEnd} {K:AEnd→Sto→Prop} (hs:ShrL st1 L R) (hi:(jcY (fun j=>Nat.blt j st1.length) r && L.all (fun l=>l.all fun j=>Nat.blt j st1.length))=true)
  (k:fsto (putR (back π st.length) π R st ++ (R.drop π.length).map (fun ρ=>ρ (back π st.length))) fun st'=>K (j4V (back π st.length) r) st'):VBack π st r st1 K:=jei hs hi (jjm.1 k)
theorem jnq {π:List Nat} {st st1 st':Sto} {L:List (List Nat)} {R:List ((Nat→Nat)→SO)} {r r':AEnd} {K:AEnd→Sto→Prop} (hs:ShrL st1 L R) (hi:(jcY (fun j=>Nat.blt j st1.length) r && L.all (fun l=>l.all fun j=>Nat.blt j st1.length))=true)
  (hr:j4V (back π st.length) r=r') (ht:putR (back π st.length) π R st ++ (R.drop π.length).map (fun ρ=>ρ (back π st.length))=st') (k:K r' st'):VBack π st r st1 K:=by
 subst hr
 subst ht
 exact jei hs hi k
theorem j6j {k0:Nat} {rs:List PV} {st st':Sto} {L:List (List Nat)} {R:List ((Nat→Nat)→SO)} {π:List Nat} (hs:ShrL st L R) (hπ:j5V 0 k0 ++ j2J k0 (st.drop k0)=π) (hb:Nat.beq π.length st.length=false) (hi:rs.all (j0g (fun i=>π.elem i) 8)=true)
  (hf:j8H L R (fun i=>place i 0 π) (fun i=>π.elem i) π=some st'):squeeze k0 rs st=(rs.map (j1a (fun i=>place i 0 π) 8),st'):=by
 unfold squeeze
 rw [hπ]
 unfold j4Z
 simp only [hb,hi,j6w hs hf]
theorem j1P {k0:Nat} {rs:List PV} {st:Sto} (hb:Nat.beq (j5V 0 k0 ++ j2J k0 (st.drop k0)).length st.length=true):squeeze k0 rs st=(rs,st):=by
 unfold squeeze j4Z
 simp only [hb]
theorem j1t {f:FuncId} {k0:Nat} {rs rs1 rs2:List PV} {st st1 st2 st3:Sto} {Q:AEnd→Sto→Prop} (hp:(C.keep f=true∧rs1=rs∧st1=st)∨(C.keep f=false∧pubL C rs st=some (rs1,st1))) (hn:(rs1.all (pur 8) && (st1.take k0).all (soIn fun i=>Nat.blt i k0))=false) (hg:gc k0 (rs1.map fun r=>(0,r)) st1=st2) (hs:squeeze k0 rs1 st2=(rs2,st3)) (k:Q (.ret rs2) st3):VRet C f k0 rs st Q:=by
 refine ⟨rs2,st3,?_,k⟩
 unfold aret
 rcases hp with ⟨h1,rfl,rfl⟩|⟨h1,h2⟩
 ·simp only [h1,hn,hg,hs]
 ·simp only [h1,h2,hn,hg,hs]
theorem jcG {f:FuncId} {k0:Nat} {rs:List PV} {st st':Sto} {L:List (List Nat)} {R:List ((Nat→Nat)→SO)} {Q:AEnd→Sto→Prop} (hp:rs.all (pur 8)=true) (ht:st.take k0=st') (hs:ShrL st' L R) (hL:L.all (fun l=>l.all fun i=>Nat.blt i k0)=true) (k:Q (.ret rs) st'):VRet C f k0 rs st Q:=by
 subst ht
 exact j03 hp (hs.shl.soIn hL) k
end
end Go.Am

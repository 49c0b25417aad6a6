/- Strings in walks: operations on them. Plain lemmas. -/
import Derived.Test.YtbnodhcijeaceaaGreatDoorXGwr
import Derived.Lib.Join
set_option linter.all false
namespace Go.Gw
open Go
abbrev str(l:List UInt8):Value:=.string ⟨l.toArray⟩
def jcf(s:ByteArray):Value.string s=str s.data.toList:=by cases s;simp
def j8t(l:List UInt8):(⟨l.toArray⟩:ByteArray).toList=l:=by rw[Lib.toList_data]
def j2A(l:List UInt8):(⟨l.toArray⟩:ByteArray).size=l.length:=by simp[ByteArray.size]
def jn3(a b:List UInt8):(⟨a.toArray⟩:ByteArray)++(⟨b.toArray⟩:ByteArray)=⟨(a++b).toArray⟩:=by
 apply ByteArray.ext;simp
def j7m(l:List UInt8)(i j:Nat):(⟨l.toArray⟩:ByteArray).extract i j=⟨((l.drop i).take (j-i)).toArray⟩:=by
 apply ByteArray.ext;simp[FT]
section
variable{E:Entry}{P:Program}{n:Nat}{ρ:Env}{m:Mem}{μ:Own}{ty:TypeId}{pos:String}{after:Array Edge}
variable{dst:Option Nat}{gd:Option (Nat×Bool)}{T T':TypeId}{x y z:Operand}{i j:Int}{a b:List UInt8}
end
open Go
def SlV{α:Type}(V:Mem→α→List Value→Prop)(sz bound:Nat)(m:Mem)(xs:List α)(sv:Value):Prop:=
 ∃a cap,sv=.slice a xs.length cap∧xs.length≤cap∧xs.length≤bound∧∀i x,xs[i]?=some x→∃b off cs,a=some ⟨b,off,none⟩∧RdN m b (off+i*sz) cs∧V m x cs
variable{k n:Int}{ls:List Lv}{cs:List Value}{m m':Mem}{bound sz:Nat}{α:Type}{sv:Value}
def SlV.mono{V:Mem→α→List Value→Prop}{xs:List α}(h:SlV V sz bound m xs sv)(hV:∀x cs,V m x cs→V m' x cs)(hA:Mem.le m m'):SlV V sz bound m' xs sv:=by
 obtain⟨a,cap,h1,h2,h3,h4⟩:=h;refine⟨a,cap,h1,h2,h3,fun i x hx=>?_⟩
 obtain⟨b,off,cs,h5,h6,h7⟩:=h4 i x hx;exact⟨b,off,cs,h5,h6.mono hA,hV _ _ h7⟩
def SlV.nil{V:Mem→α→List Value→Prop}:SlV V sz bound m [] (.slice none 0 0):=
 ⟨none,0,rfl,AU _,DD _,fun i x h=>by simp at h⟩
def AllV{α:Type}(V:Mem→α→List Value→Prop)(sz:Nat)(m:Mem):List α→List (List Value)→Prop
 |[],[]=>True
 |x::xs,c::cs=>(V m x c∧c.length=sz)∧AllV V sz m xs cs
 |_,_=>False
section
variable{α:Type}{V:Mem→α→List Value→Prop}{sz:Nat}{m m':Mem}
def AllV.mono(hV:∀x cs,V m x cs→V m' x cs):∀{xs:List α}{cs:List (List Value)},AllV V sz m xs cs→AllV V sz m' xs cs
 |[],[],_=>trivial
 |_::_,_::_,h=>⟨⟨hV _ _ h.1.1,h.1.2⟩,AllV.mono hV h.2⟩
 |[],_::_,h=>h.elim
 |_::_,[],h=>h.elim
def AllV.snoc:∀{xs:List α}{cs:List (List Value)}{x:α}{c:List Value},AllV V sz m xs cs→V m x c→c.length=sz→AllV V sz m (xs++[x]) (cs++[c])
 |[],[],_,_,_,h,h3=>⟨⟨h,h3⟩,trivial⟩
 |_::_,_::_,_,_,h,h',h3=>⟨h.1,AllV.snoc h.2 h' h3⟩
 |[],_::_,_,_,h,_,_=>h.elim
 |_::_,[],_,_,h,_,_=>h.elim
def AllV.length:∀{xs:List α}{cs:List (List Value)},AllV V sz m xs cs→cs.length=xs.length
 |[],[],_=>rfl
 |_::_,_::_,h=>by simp[AllV.length h.2]
 |[],_::_,h=>h.elim
 |_::_,[],h=>h.elim
def AllV.flatten_length:∀{xs:List α}{cs:List (List Value)},AllV V sz m xs cs→cs.flatten.length=xs.length*sz
 |[],[],_=>by simp
 |_::xs,_::_,h=>by rw[CC,AL,AllV.flatten_length h.2,h.1.2,AC,DA,Nat.add_comm]
 |[],_::_,h=>h.elim
 |_::_,[],h=>h.elim
def AllV.at{b:Nat}:∀{xs:List α}{cs:List (List Value)}{off i:Nat}{x:α},AllV V sz m xs cs→RdN m b off cs.flatten→xs[i]?=some x→∃c,RdN m b (off+i*sz) c∧V m x c
 |x0::xs,c0::cs,off,i,x,h,hr,hx=>by
  cases i with
  |zero=>
   simp at hx;subst hx;refine⟨c0,fun j v hj=>?_,h.1.1⟩
   have:=hr j v (by rw[CC,AW (AK.1 hj).1];exact hj)
   simpa using this
  |succ i=>
   have hA:RdN m b (off+sz) cs.flatten:=fun j v hj=>by
    have:=hr (sz+j) v (by rw[CC,BK (by have:=h.1.2;omega),h.1.2];simpa using hj)
    rwa [←DY] at this
   obtain⟨c,h1,h2⟩:=AllV.at h.2 hA (by simpa using hx)
   refine⟨c,?_,h2⟩
   rwa [show off+(i+1)*sz=off+sz+i*sz by rw[DA];omega]
 |[],_,_,i,x,_,_,hx=>by simp at hx
 |_::_,[],_,_,_,h,_,_=>h.elim
def AllV.made{xs:List α}{cs:List (List Value)}{a:Option Addr}{cap bound:Nat}(hz:0<sz)(h:AllV V sz m xs cs)(hr:RowAt m a cs.flatten)(hc:xs.length≤cap)(hb:xs.length≤bound):SlV V sz bound m xs (.slice a xs.length cap):=by
 refine⟨a,cap,rfl,hc,hb,fun i x hx=>?_⟩
 rcases hr with hr|⟨b,rfl,hr⟩
 ·have h1:=h.flatten_length;rw[hr] at h1;have h2:=(AK.1 hx).1;have h3:0<xs.length*sz:=Nat.mul_pos (by omega) hz
  simp at h1;omega
 ·obtain⟨c,h1,h2⟩:=h.at hr hx;exact⟨b,0,c,rfl,h1,h2⟩
end
def StrV(_:Mem)(s:List UInt8)(cs:List Value):Prop:=cs=[str s]∧s.length≤140737488355328
abbrev StrsV:=SlV StrV 1 8796093022208
def StrsV.mono{xs:List (List UInt8)}(h:StrsV m xs sv)(hA:Mem.le m m'):StrsV m' xs sv:=SlV.mono h (fun _ _ h=>h) hA
inductive Tm where
 |mk (k n:Int) (s:List UInt8) (ls:List Lv) (ts:List Tm)
mutual
theorem Tm.ind{P:Tm→Prop}(h:∀k n s ls ts,(∀t∈ts,P t)→P (.mk k n s ls ts)):∀t,P t
 | .mk k n s ls ts=>h k n s ls ts (Tm.inds h ts)
theorem Tm.inds{P:Tm→Prop}(h:∀k n s ls ts,(∀t∈ts,P t)→P (.mk k n s ls ts)):∀ts:List Tm,∀t∈ts,P t
 |[],_,hl=>by cases hl
 |x::r,l,hl=>by
  rcases AN.1 hl with e|e
  ·rw[e];exact Tm.ind h x
  ·exact Tm.inds h r l e
end
inductive TmV (m:Mem):Tm→List Value→Prop where
 |mk {k n:Int}{s:List UInt8}{ls:List Lv}{ts:List Tm}{la ta:Option Addr}{lcap tcap:Nat}(f:Nat→Nat×Nat×List Value) (hk:i64 k) (hn:i64 n) (hs:s.length≤140737488355328)
  (hl:LvsS m ls (.slice la ls.length lcap)) (hc:ts.length≤tcap) (hb:ts.length≤1759218604441)
  (ha:∀i x,ts[i]?=some x→ta=some ⟨(f i).1,(f i).2.1,none⟩∧RdN m (f i).1 ((f i).2.1+i*5) (f i).2.2) (ht:∀i x,ts[i]?=some x→TmV m x (f i).2.2) :
  TmV m (.mk k n s ls ts) [.int .i64 k,.int .i64 n,str s,.slice la ls.length lcap,.slice ta ts.length tcap]
abbrev TmsV:=SlV TmV 5 1759218604441
variable{t:Tm}
def TmV.mono(hA:Mem.le m m')(h:TmV m t cs):TmV m' t cs:=by
 induction h with
 |mk f hk hn hs hl hc hb ha ht ih=>exact .mk f hk hn hs (hl.mono hA) hc hb (fun i x hx=>⟨(ha i x hx).1,(ha i x hx).2.mono hA⟩) ih
variable{ts:List Tm}
def TmsV.mono(h:TmsV m ts sv)(hA:Mem.le m m'):TmsV m' ts sv:=SlV.mono h (fun _ _ h=>TmV.mono hA h) hA
def TmV.len(h:TmV m t cs):cs.length=5:=by cases h;rfl
def TmV.open(h:TmV m t cs):∃k n s ls ts la lcap ta tcap,t=.mk k n s ls ts∧cs=[.int .i64 k,.int .i64 n,str s,.slice la (List.length (α:=Lv) ls) lcap,.slice ta (List.length (α:=Tm) ts) tcap] ∧
  i64 k∧i64 n∧s.length≤140737488355328∧LvsS m ls (.slice la ls.length lcap)∧TmsV m ts (.slice ta ts.length tcap):=by
 cases h with
 |mk f hk hn hs hl hc hb ha ht=>exact⟨_,_,_,_,_,_,_,_,_,rfl,rfl,hk,hn,hs,hl,_,_,rfl,hc,hb,fun i x hx=>⟨_,_,_,(ha i x hx).1,(ha i x hx).2,ht i x hx⟩⟩
def TmV.of{s:List UInt8}{la ta:Option Addr}{lcap tcap:Nat}(hk:i64 k)(hn:i64 n)(hs:s.length≤140737488355328)
  (hl:LvsS m ls (.slice la ls.length lcap)) (ht:TmsV m ts (.slice ta ts.length tcap)):TmV m (.mk k n s ls ts) [.int .i64 k,.int .i64 n,str s,.slice la ls.length lcap,.slice ta ts.length tcap]:=by
 obtain⟨a,cap,h1,h2,h3,h4⟩:=ht;simp only[Value.slice.injEq,true_and] at h1;obtain⟨rfl,rfl⟩:=h1;have hf:∃f:Nat→Nat×Nat×List Value,∀i x,ts[i]?=some x→(ta=some ⟨(f i).1,(f i).2.1,none⟩∧RdN m (f i).1 ((f i).2.1+i*5) (f i).2.2)∧TmV m x (f i).2.2:=by
  refine Classical.axiomOfChoice (r:=fun i (p:Nat×Nat×List Value)=>∀x,ts[i]?=some x→(ta=some ⟨p.1,p.2.1,none⟩∧RdN m p.1 (p.2.1+i*5) p.2.2)∧TmV m x p.2.2) fun i=>?_
  cases h:ts[i]? with
  |none=>exact⟨(0,0,[]),fun x hx=>by cases hx⟩
  |some x=>
   obtain⟨b,off,cs,h5,h6,h7⟩:=h4 i x h;exact⟨(b,off,cs),fun y hy=>by cases hy;exact⟨⟨h5,h6⟩,h7⟩⟩
 obtain⟨f,hf⟩:=hf;exact .mk f hk hn hs hl h2 h3 (fun i x hx=>(hf i x hx).1) (fun i x hx=>(hf i x hx).2)
def TmsV.at{m:Mem}{ts:List Tm}{a:Option Addr}{len cap:Nat}(h:TmsV m ts (.slice a len cap)){i:Nat}{x:Tm}(hx:ts[i]?=some x):∃b off k n s ls us la lcap ta tcap,a=some ⟨b,off,none⟩∧x=.mk k n s ls us ∧
  RdN m b (off+i*5) [.int .i64 k,.int .i64 n,str s,.slice la (List.length (α:=Lv) ls) lcap,.slice ta (List.length (α:=Tm) us) tcap]∧TmV m x [.int .i64 k,.int .i64 n,str s,.slice la ls.length lcap,.slice ta us.length tcap]:=by
 obtain⟨a',cap',h1,h2,h3,h4⟩:=h;simp only[Value.slice.injEq] at h1;obtain⟨rfl,rfl,rfl⟩:=h1;obtain⟨b,off,cs,h5,h6,h7⟩:=h4 i x hx;have h8:=h7;obtain⟨k,n,s,ls,us,la,lcap,ta,tcap,e1,e2,-⟩:=h7.open;rw[e2] at h6 h8;exact⟨b,off,k,n,s,ls,us,la,lcap,ta,tcap,h5,e1,h6,h8⟩
open Go
def Tm.kind:Tm→Int | .mk k _ _ _ _=>k
def Tm.num:Tm→Int | .mk _ n _ _ _=>n
def Tm.name:Tm→List UInt8 | .mk _ _ s _ _=>s
def Tm.levels:Tm→List Lv | .mk _ _ _ ls _=>ls
def Tm.args:Tm→List Tm | .mk _ _ _ _ ts=>ts
def Tm.zero:Tm:=.mk 0 0 [] [] []
mutual
def cntT:Tm→Int→Int
 | .mk _ _ _ ls ts,left=>j5B ts (j0H ls (left-1))
def j5B:List Tm→Int→Int
 |[],left=>left
 |t::r,left=>if left<0 then left else j5B r (cntT t left)
end
def j0A(t:Tm):Int:=2000-max (cntT t 2000) (-1)
mutual
theorem jek:∀(t:Tm) (left:Int),0≤left→-1≤cntT t left∧cntT t left≤left
 | .mk _ _ _ ls ts,left,h=>by
  simp only[cntT];have h1:=j4R ls (left-1) (by omega)
  have h2:=jju ts (j0H ls (left-1)) h1.1;omega
theorem jju:∀(ts:List Tm) (left:Int),-1≤left→-1≤j5B ts left∧j5B ts left≤left
 |[],left,h=>by simp only[j5B];omega
 |t::r,left,h=>by
  simp only[j5B];split
  ·omega
  ·have h1:=jek t left (by omega)
   have h2:=jju r (cntT t left) (by omega)
   omega
end
def j4P(ts:List Tm)(left:Int)(h:left<0):j5B ts left=left:=by
 cases ts<;>simp[j5B,h]
def j0Y(k:Int):Int:=if k=4∨k=5∨k=6 then 2 else if k=7 then 3 else 0
def j0G(k:Int):Int:=if k=2 then 1 else 0
def j0g(k:Int):Int:=if k=0 then 0 else if k=5∨k=6 then 1 else if k=7 then 2 else -1
def j0n(binds at_ deep:Int):Int:=if at_=binds then deep+1 else deep
def j6m(c:UInt8):Bool:=(97≤c&&c≤122)||(48≤c&&c≤57)||c == 95
def j2R(s:List UInt8):Bool:=match s with
 |[]=>false
 |c::r=>!(48≤c&&c≤57)&&(c::r).all j6m
def j1v:List UInt8→List UInt8→List (List UInt8)
 |acc,[]=>[acc.reverse]
 |acc,c::r=>if c == 46 then acc.reverse::j1v [] r else j1v (c::acc) r
def j4E(s:List UInt8):List (List UInt8):=j1v [] s
def j2f(s:List UInt8):Bool:=decide (s.length≤40)&&(j4E s).all j2R
def j2Q:Tm→Int→Bool
 | .mk k n s ls _,kk=>if k=1 then decide (0≤n)&&(decide (n<kk)&&(s == []&&decide (ls.length=0))) else if k=3 then decide (n=0)&&(j2f s&&decide (ls.length≤4)) else decide (n=0)&&(s == []&&decide ((ls.length:Int)=j0G k))
def j1j:List Lv→Int→Bool
 |[],_=>true
 |l::r,p=>j0C l p&&j1j r p
mutual
def allT:Tm→Int→Int→Bool
 | .mk k n s ls ts,p,kk=>(decide (1≤k)&&decide (k≤7))&&(decide ((ts.length:Int)=j0Y k)&&(j2Q (.mk k n s ls ts) kk&&(j1j ls p&&j0M ts k 0 p kk)))
def j0M:List Tm→Int→Int→Int→Int→Bool
 |[],_,_,_,_=>true
 |t::r,k,i,p,kk=>allT t p (j0n (j0g k) i kk)&&j0M r k (i+1) p kk
end
def j0s(t:Tm)(p kk:Int):Bool:=decide (0≤p)&&(decide (p≤4)&&(decide (0≤kk)&&(decide (j0A t≤2000)&&allT t p (min kk 1125899906842624))))
mutual
def depT:Tm→Nat
 | .mk _ _ _ _ ts=>jcK ts+1
def jcK:List Tm→Nat
 |[]=>0
 |t::r=>max (depT t) (jcK r)
end
def j6x:∀{ts:List Tm}{t:Tm},t∈ts→depT t≤jcK ts
 |x::r,t,h=>by
  rw[jcK];rcases AN.1 h with rfl|h
  ·omega
  ·have:=j6x h;omega
mutual
theorem jjs:∀(t:Tm) (left:Int),0≤left→0≤cntT t left→(depT t:Int)≤left
 | .mk _ _ _ ls ts,left,h,hc=>by
  simp only[cntT] at hc;rw[depT];have h1:=j4R ls (left-1) (by omega)
  have h2:=jg0 ts (j0H ls (left-1)) h1.1 hc;omega
theorem jg0:∀(ts:List Tm) (left:Int),-1≤left→0≤j5B ts left→(jcK ts:Int)≤left
 |[],left,h,hc=>by simp only[j5B] at hc;simp[jcK,hc]
 |t::r,left,h,hc=>by
  simp only[j5B] at hc;split at hc
  ·omega
  ·rename_i h0;have h1:=jek t left (by omega)
   have h2:=jg0 r (cntT t left) (by omega) hc
   have h3:0≤cntT t left:=by
    by_cases h4:cntT t left<0
    ·rw[j4P r _ h4] at hc;omega
    ·omega
   have h4:=jjs t left (by omega) h3
   rw[jcK];omega
end
def jbW(h:j0A t≤2000):depT t≤2000:=by
 unfold j0A at h;have:=jjs t 2000 (by omega) (by omega)
 omega
def juH:Tm→List Tm→Tm×List Tm
 | .mk 4 n s ls [f,x],acc=>juH f (x::acc)
 |t,acc=>(t,acc)
open Go
def j7N(parts:List (List UInt8)):List UInt8:=[40]++Lib.join parts [32]++[41]
def jps(k:Int):List UInt8:=if k=3 then[43] else if k=4 then[124] else if k=5 then[63] else[]
def jn7(k:Int):List UInt8:=if k=5 then[92] else if k=6 then[62] else if k=7 then[61] else[]
mutual
def j6L:Lv→List UInt8
 | .mk k n ls=>if k=1 then Lib.itoa n else if k=2 then[117]++Lib.itoa n else j7N (jps k::j4n ls)
def j4n:List Lv→List (List UInt8)
 |[]=>[]
 |l::r=>j6L l::j4n r
end
def juj(l:Lv):List UInt8:=if j0C l 4=true then j6L l else[]
mutual
def txT:Tm→List UInt8×List (List UInt8)
 | .mk k n s ls ts=>
  let cs:=txTs ts
  if k=4 then
   let parts:=(cs.getD 0 ([],[])).2++[(cs.getD 1 ([],[])).1]
   (j7N parts,parts)
  else
   let t:=if k=1 then[35]++Lib.itoa n else if k=2 then j7N [[42],j6L (ls.getD 0 (.mk 0 0 []))] else if k=3 then(if ls.length=0 then s else j7N ([64]::s::j4n ls)) else j7N (jn7 k::cs.map (·.1))
   (t,[t])
def txTs:List Tm→List (List UInt8×List (List UInt8))
 |[]=>[]
 |t::r=>txT t::txTs r
end
def juS(t:Tm):List UInt8:=if j0s t 4 1125899906842624=true then(txT t).1 else[]
def jv6(c:UInt8):Bool:=c == 32||c == 40||c == 41
def jmE:List UInt8→List UInt8×List UInt8
 |[]=>([],[])
 |c::r=>if jv6 c then([],c::r) else((c::(jmE r).1),(jmE r).2)
def numF(s:List UInt8):Option Int:=if s=[] then none else if s.length≤18∧s.all (fun c=>48≤c&&c≤57) then some (s.foldl (fun a c=>a*10+((c.toNat:Int)-48)) 0) else none
def jvi(s:List UInt8):Int:=if s=[43] then 3 else if s=[124] then 4 else if s=[63] then 5 else 0
mutual
def jsi:Nat→List UInt8→Option (Lv×List UInt8)
 |0,_=>none
 |fuel+1,s=>match s with
  |[]=>none
  |40::r=>
   let w:=jmE r
   match jiH fuel w.2 with
   |some (ls,41::r')=>some (.mk (jvi w.1) 0 ls,r')
   |_=>none
  |s=>
   let w:=jmE s
   match w.1 with
   |117::d=>(numF d).map fun n=>(.mk 2 n [],w.2)
   |d=>(numF d).map fun n=>(.mk 1 n [],w.2)
def jiH:Nat→List UInt8→Option (List Lv×List UInt8)
 |0,_=>none
 |fuel+1,s=>match s with
  |32::r=>match jsi fuel r with
   |some (l,r')=>(jiH fuel r').map fun p=>(l::p.1,p.2)
   |none=>none
  |s=>some ([],s)
end
def jn8(s:List UInt8):Int:=if s=[92] then 5 else if s=[62] then 6 else if s=[61] then 7 else 0
def appF(f:Tm):List Tm→Tm
 |[]=>f
 |x::r=>appF (.mk 4 0 [] [] [f,x]) r
mutual
def jpd:Nat→List UInt8→Option (Tm×List UInt8)
 |0,_=>none
 |fuel+1,s=>match s with
  |[]=>none
  |40::r=>match juB fuel r with
   |some (t,41::r')=>some (t,r')
   |_=>none
  |s=>
   let w:=jmE s
   match w.1 with
   |35::d=>(numF d).map fun n=>(.mk 1 n [] [] [],w.2)
   |d=>some (.mk 3 0 d [] [],w.2)
def juB:Nat→List UInt8→Option (Tm×List UInt8)
 |0,_=>none
 |fuel+1,s=>match s with
  |42::32::r=>(jsi fuel r).map fun p=>(.mk 2 0 [] [p.1] [],p.2)
  |64::32::r=>let w:=jmE r
   (jiH fuel w.2).map fun p=>(.mk 3 0 w.1 p.1 [],p.2)
  |c::32::r=>if jn8 [c]=0 then(match jpd fuel (c::32::r) with
    |some (t,r')=>(jfa fuel r').map fun p=>(appF t p.1,p.2)
    |none=>none)
   else(jfa fuel (32::r)).map fun p=>(.mk (jn8 [c]) 0 [] [] p.1,p.2)
  |s=>match jpd fuel s with
    |some (t,r')=>(jfa fuel r').map fun p=>(appF t p.1,p.2)
    |none=>none
def jfa:Nat→List UInt8→Option (List Tm×List UInt8)
 |0,_=>none
 |fuel+1,s=>match s with
  |32::r=>match jpd fuel r with
   |some (t,r')=>(jfa fuel r').map fun p=>(t::p.1,p.2)
   |none=>none
  |s=>some ([],s)
end
open Go
def j9N:∀ls:List Lv,j4n ls=ls.map j6L
 |[]=>rfl
 |l::r=>by rw[j4n,j9N r];rfl
def jgu(xs:List (List UInt8)):(j7N xs).length=(Lib.join xs [32]).length+2:=by simp[j7N]
def jq5(h:allF (.mk k n ls) 4=true)(h1:¬k=1)(h2:¬k=2):(3≤k∧k≤5)∧0<ls.length∧ls.length≤2:=by
 rw[allF,AB] at h;have h:=h.1;rw[j7G] at h;split at h
 ·rename_i hw;unfold jcB at hw;split at hw<;>(try split at hw)<;>(try split at hw)<;>(try split at hw)<;>omega
 ·cases h
mutual
theorem joG:∀(l:Lv),allF l 4=true→(j6L l).length≤30*j0T l
 | .mk k n ls,h=>by
  have h0:=h;rw[allF,AB] at h;rw[j6L,j0T]
  by_cases h1:k=1
  ·subst h1;rw[if_pos rfl];have hn:0≤n∧n≤100:=by
    have h:=h.1;rw[j7G] at h;split at h<;>simp at h
    exact h
   have:=Lib.itoa_length_le n (by omega) (by omega)
   omega
  ·rw[if_neg h1]
   by_cases h2:k=2
   ·subst h2;rw[if_pos rfl];have hn:0≤n∧n<4:=by
     have h:=h.1;rw[j7G] at h;split at h<;>simp at h
     exact h
    have:=Lib.itoa_length_le n (by omega) (by omega)
    simp;omega
   ·rw[if_neg h2];have hk:=jq5 h0 h1 h2;have hs:=jdy ls h.2;have h3:(jps k).length≤1:=by unfold jps;split<;>(try split)<;>(try split)<;>simp
    rw[jgu,Lib.join_length,j9N];rw[j9N] at hs;have h4:Lib.lens (jps k::ls.map j6L)=(jps k).length+Lib.lens (ls.map j6L):=by simp[Lib.lens]
    rw[h4];simp;omega
theorem jdy:∀(ls:List Lv),j3n ls 4=true→Lib.lens (j4n ls)≤30*j0d ls
 |[],_=>by simp[j4n,Lib.lens]
 |l::r,h=>by
  rw[j3n,AB] at h;have h1:=joG l h.1;have h2:=jdy r h.2;have h4:Lib.lens (j6L l::j4n r)=(j6L l).length+Lib.lens (j4n r):=by simp[Lib.lens]
  rw[j4n,j0d,h4];omega
end
mutual
def jvd:Tm→Bool
 | .mk k _ _ _ ts=>decide (k≠4)&&jse ts
def jse:List Tm→Bool
 |[]=>true
 |t::r=>jvd t&&jse r
end
mutual
def txN:Tm→List UInt8
 | .mk k n s ls ts=>if k=1 then[35]++Lib.itoa n else if k=2 then j7N [[42],j6L (ls.getD 0 (.mk 0 0 []))] else if k=3 then(if ls.length=0 then s else j7N ([64]::s::j4n ls)) else j7N (jn7 k::txNs ts)
def txNs:List Tm→List (List UInt8)
 |[]=>[]
 |t::r=>txN t::txNs r
end
def jvB(t:Tm):List UInt8:=if j0s t 4 1125899906842624=true then txN t else[]
end Go.Gw
namespace Go.Am
open Go
inductive FindsY (C:Cfg) (args:List PV) (st:Sto) (Q:AEnd→Sto→Prop):Prop where
 |mk (r:AEnd) (st':Sto) (hq:Q r st') (N:Nat) (h:∀n,N≤n→(ev C n).yield args st=some (r,st'))
section
variable{C:Cfg}
variable{Q:AEnd→Sto→Prop}{vs:List PV}{id:Nat}{st:Sto}
def j1W{args:List PV}{Q':AEnd→Sto→Prop}(h:FindsY C args st Q)(hq:∀r st',Q r st'→Q' r st'):FindsY C args st Q':=by
 obtain⟨r,st',h1,N,h2⟩:=h;exact⟨r,st',hq _ _ h1,N,h2⟩
def jfK(id k0:Nat)(Q:AEnd→Sto→Prop):AX→AEnv→Sto→Prop:=fun x _ s2=>match s2[id]? with
 |some (.lp ρ2 ps2 a2 b2 .busy)=>match x with
  | .normal=>Q (.ret [.sc (.bool true)]) (j1I k0 (s2.set id (.lp ρ2 ps2 a2 b2 .ready)))
  | .ret=>Q (.ret [.sc (.bool false)]) (j1I k0 (s2.set id (.lp ρ2 ps2 a2 b2 (.done none))))
  | .exit i=>Q (.ret [.sc (.bool false)]) (j1I k0 (s2.set id (.lp ρ2 ps2 a2 b2 (.done (some i)))))
  | .pan _=>False
 |_=>False
theorem j2d{ρ:AEnv}{ps:List Nat}{a b:Code}(qA:st[id]?=some (.lp ρ ps a b .ready))(hn:(Nat.beq vs.length ps.length&&(j1f a&&j1f b))=true)
  (h:VC C a (jiC ps vs ρ) st fun x ρ1 s1=>match x with
   | .normal=>match s1[id]? with
    |some (.lp ρ' ps' a' b' .ready)=>VC C b ρ1 (s1.set id (.lp ρ' ps' a' b' .busy)) (jfK id st.length Q)
    |_=>False
   |_=>False):FindsY C (.yl id::vs) st Q:=by
 obtain⟨x,s1,hk,N,hN⟩:=jfF h;cases x with
 |normal=>
  simp only at hk;split at hk
  ·rename_i ρ' ps' a' b' h1;obtain⟨x2,s2,hA,N2,gA⟩:=jfF hk;unfold jfK at hA;split at hA
   ·rename_i ρ2 ps2 a2 b2 h2;have main:∃r st',Q r st'∧(match x2 with
      | .normal=>some (AEnd.ret [.sc (.bool true)],j1I st.length (s2.st.set id (.lp ρ2 ps2 a2 b2 .ready)))
      | .ret=>some (AEnd.ret [.sc (.bool false)],j1I st.length (s2.st.set id (.lp ρ2 ps2 a2 b2 (.done none))))
      | .exit i=>some (AEnd.ret [.sc (.bool false)],j1I st.length (s2.st.set id (.lp ρ2 ps2 a2 b2 (.done (some i)))))
      | .pan _=>none)=some (r,st'):=by
     cases x2 with
     |normal=>exact⟨_,_,hA,rfl⟩
     |ret=>exact⟨_,_,hA,rfl⟩
     |exit i=>exact⟨_,_,hA,rfl⟩
     |pan v=>exact hA.elim
    obtain⟨r,st',hq,hr⟩:=main;refine⟨r,st',hq,max N N2+1,fun n wA=>?_⟩
    obtain⟨m,rfl⟩:∃m,n=m+1:=⟨n-1,by omega⟩
    show jat C (ev C m) (.yl id::vs) st=_
    simp only[jat,qA,hn,hN m (by omega),h1,gA m (by omega),h2]
    rw[←hr];cases x2<;>rfl
   ·exact hA.elim
  ·exact hk.elim
 |_=>exact hk.elim
theorem jsq{vs' args0:List PV}{st0 st1:Sto}{π:List Nat}{K:AR→Prop}(hw:pubL C vs st=some (vs',st1))(hπ:(close st1 64 ((PV.yl id::vs').flatMap (ids 8)) []).reverse=π)
  (hi:(PV.yl id::vs').all (j0e (fun i=>π.elem i) 8)=true) (hf:fetch (fun i=>place i 0 π) (fun i=>π.elem i) st1 π=some st0) (ha:(PV.yl id::vs').map (j1p (fun i=>place i 0 π) 8)=args0)
  (h:FindsY C args0 st0 fun r st2=>VBack π st1 r st2 fun r st'=>match r with
   | .ret rs=>K (.val (retV rs) st')
   | .pan _=>False):VYield C id vs st K:=by
 obtain⟨r,st2,⟨r',st',h1,h2⟩,N,hN⟩:=h;cases r' with
 |ret rs=>
  refine⟨_,h2,N,fun n hn=>?_⟩
  simp only[jh9,hw,hπ,j4M,hi,hf,ha,hN n hn,h1]
 |pan v=>exact h2.elim
end
open Go
def Sh(o:SO)(l:List Nat):Prop:=j8J o=l∧∀f:Nat→Bool,(∀i∈l,f i=true)→soIn f o=true
def ShL:Sto→List (List Nat)→Prop
 |[],L=>L=[]
 |o::r,L=>∃l L',L=l::L'∧Sh o l∧ShL r L'
def ShL.nil:ShL [] []:=rfl
variable{ρ:AEnv}{b:Bool}{C:Cfg}{a:Code}{L:List (List Nat)}{l ps:List Nat}{cs:List PV}{s:LpS}{n z:Nat}{f:PV→Sto→Option (PV×Sto)}{o:SO}{r st st':Sto}{T:TypeId}
def ShL.cons(h:Sh o l)(k:ShL r L):ShL (o::r) (l::L):=⟨l,L,rfl,h,k⟩
theorem j7s{f g:Nat→Bool}(h:∀i,f i=true→g i=true):∀{n:Nat}{x:PV},j0e f n x=true→j0e g n x=true
 |0,x,hx=>by simp[j0e] at hx
 |n+1,x,hx=>by
  have hA:∀{l:List PV},l.all (j0e f n)=true→l.all (j0e g n)=true:=fun hl=>AF.2 fun y hy=>j7s h (AF.1 hl y hy)
  cases x with
  |ag cs=>simp only[j0e] at hx⊢;exact hA hx
  |tu cs=>simp only[j0e] at hx⊢;exact hA hx
  |ci cs=>simp only[j0e] at hx⊢;exact hA hx
  |fn q a b=>simp only[j0e,AB] at hx⊢;exact⟨hA hx.1,hA hx.2⟩
  |ifc t x=>simp only[j0e] at hx⊢;exact j7s h hx
  |ms id len=>simp only[j0e] at hx⊢;exact h _ hx
  |bp id off=>simp only[j0e] at hx⊢;exact h _ hx
  |yl id=>simp only[j0e] at hx⊢;exact h _ hx
  |mr id=>simp only[j0e] at hx⊢;exact h _ hx
  |cr id=>simp only[j0e] at hx⊢;exact h _ hx
  |rp id len i off=>simp only[j0e] at hx⊢;exact h _ hx
  |_=>rfl
def j02(h1:cs.flatMap (ids 8)=l)(h2:cs.all (j0e (fun j=>l.elem j) 8)=true):Sh (.box T cs) l:=
 ⟨h1,fun f hf=>AF.2 fun x hx=>j7s (fun i hi=>hf i (by simpa using hi)) (AF.1 h2 x hx)⟩
def j05(h:cs.all (pur 8)=true):Sh (.row b T z cs) []:=by
 rw[AF] at h;have key:∀{n:Nat}{x:PV},pur n x=true→ids n x=[]∧∀f,j0e f n x=true:=by
  intro n
  induction n with
  |zero=>intro x hx;simp[pur] at hx
  |succ n ih=>
   intro x hx;have hA:∀{l:List PV},l.all (pur n)=true→l.flatMap (ids n)=[]∧∀f,l.all (j0e f n)=true:=fun{l} hl=>by
    rw[AF] at hl;exact⟨by rw[EJ];exact fun y hy=>(ih (hl y hy)).1,fun f=>AF.2 fun y hy=>(ih (hl y hy)).2 f⟩
   cases x with
   |ag cs=>simp only[pur] at hx;exact hA hx
   |tu cs=>simp only[pur] at hx;exact hA hx
   |fn f a b=>
    simp only[pur,AB] at hx;refine⟨by simp only[ids,(hA hx.1).1,(hA hx.2).1,BF],fun f=>by simp only[j0e,(hA hx.1).2 f,(hA hx.2).2 f,CP]⟩
   |ifc t x=>
    simp only[pur] at hx;show ids n x=[]∧∀f,j0e f n x=true
    exact ih hx
   |_=>first|(simp[pur] at hx;done)|exact⟨rfl,fun _=>rfl⟩
 exact⟨by simp only[j8J];rw[EJ];exact fun y hy=>(key (h y hy)).1,fun f _=>AF.2 fun y hy=>(key (h y hy)).2 f⟩
def j0l:Sh .dead []:=⟨rfl,fun _ _=>rfl⟩
def jab(L:List (List Nat)):Nat→List Nat→List Nat→List Nat
 |0,_,acc=>acc
 |n+1,work,acc=>match work with
  |[]=>acc
  |i::r=>match acc.elem i with
   |true=>jab L n r acc
   |false=>jab L n (r++(match L[i]? with
    |some l=>l
    |none=>[])) (i::acc)
def ShL.at_:∀{st:Sto}{L:List (List Nat)},ShL st L→∀(i:Nat),(∃o l,st[i]?=some o∧L[i]?=some l∧Sh o l)∨(st[i]?=none∧L[i]?=none)
 |[],L,h,i=>by
  have h:L=[]:=h;subst h;exact .inr ⟨by simp,by simp⟩
 |o::r,L,h,i=>by
  obtain⟨l,L',rfl,h1,h2⟩:=h;cases i with
  |zero=>exact .inl ⟨o,l,rfl,rfl,h1⟩
  |succ i=>simpa using ShL.at_ h2 i
def j7n{st:Sto}{L:List (List Nat)}(h:ShL st L):∀(n:Nat) (work acc:List Nat),close st n work acc=jab L n work acc
 |0,_,_=>rfl
 |n+1,[],_=>rfl
 |n+1,i::r,acc=>by
  simp only[close,jab];cases hb:acc.elem i with
  |true=>exact j7n h n _ _
  |false=>
   rcases h.at_ i with⟨o,l,h1,h2,h3⟩|⟨h1,h2⟩
   ·rw[h1,h2];simp only[h3.1];exact j7n h n _ _
   ·rw[h1,h2];exact j7n h n _ _
def ShL.take:∀{st:Sto}{L:List (List Nat)}{k:Nat},ShL st L→(st.take k).flatMap j8J=(L.take k).flatten
 |[],L,k,h=>by
  have h:L=[]:=h;subst h;simp
 |o::r,L,0,h=>by simp
 |o::r,L,k+1,h=>by
  obtain⟨l,L',rfl,h1,h2⟩:=h;simp only[EW,EA,CC,h1.1,ShL.take h2]
def ShL.soIn{f:Nat→Bool}:∀{st:Sto}{L:List (List Nat)},ShL st L→L.all (fun l=>l.all f)=true→st.all (soIn f)=true
 |[],_,_,_=>rfl
 |o::r,L,h,hf=>by
  obtain⟨l,L',rfl,h1,h2⟩:=h;simp only[BH,AB] at hf;simp only[BH,AB];exact⟨h1.2 f fun i hi=>AF.1 hf.1 i hi,ShL.soIn h2 hf.2⟩
def j0B{k0:Nat}{L':List (List Nat)}{acc:List Nat}(h:ShL st L)(h':ShL st' L')(hb:Nat.beq st.length k0=false)(hA:jab L 64 (ρ.flatMap (fun p=>ids 8 p.2)++(L.take k0).flatten) []=acc)(hs:trim k0 (sweep k0 acc 0 st)=st')
  (hρ:ρ.all (fun p=>j0e (fun i=>Nat.blt i st'.length) 8 p.2)=true) (hL:L'.all (fun l=>l.all fun i=>Nat.blt i st'.length)=true):gc k0 ρ st=st':=by
 unfold gc;simp only[hb,j7n h,h.take,hA,hs,hρ,h'.soIn hL,CP]
def j0m{f:FuncId}{rs rs':List PV}{Q:AEnd→Sto→Prop}(hk:C.keep f=false)(hp:pubL C rs st=some (rs',st'))(hr:rs'.all (pur 8)=true)(k:Q (.ret rs') []):VRet C f 0 rs st Q:=by
 refine⟨rs',[],?_,k⟩;simp only[aret,hk,hp,hr];rfl
def j03{x y:PV}{l l':List PV}{st1 st2:Sto}(h:f x st=some (y,st1))(k:mapS f l st1=some (l',st2)):mapS f (x::l) st=some (y::l',st2):=by
 simp only[mapS,h,k]
def j0h:mapS f [] st=some ([],st):=rfl
def j0p{i len:Nat}{xs:List PV}(hA:st[i]?=some (.row b T z xs))(hn:len=xs.length)(hp:xs.all (pur 6)=true):pubV C (n+1) (.ms i len) st=some (.sl false z xs,st.set i (.row true T z xs)):=by
 have:(Nat.beq len xs.length&&xs.all (pur 6))=true:=by rw[hp,hn,DG];rfl
 simp only[pubV,pubRow,hA,this]
def j2V{cs':List PV}(h:mapS (pubV C n) cs st=some (cs',st')):pubV C (n+1) (.ag cs) st=some (.ag cs',st'):=by
 simp only[pubV,h]
open Go
structure Shr (o:SO) (l:List Nat) (ρ:(Nat→Nat)→SO):Prop where
 sh:Sh o l
 ren:∀g,j4x g o=ρ g
def ShrL:Sto→List (List Nat)→List ((Nat→Nat)→SO)→Prop
 |[],L,R=>L=[]∧R=[]
 |o::r,L,R=>∃l L' ρ R',L=l::L'∧R=ρ::R'∧Shr o l ρ∧ShrL r L' R'
def ShrL.nil:ShrL [] [] []:=⟨rfl,rfl⟩
def ShrL.cons{ρ:(Nat→Nat)→SO}{R:List ((Nat→Nat)→SO)}(h:Shr o l ρ)(k:ShrL r L R):ShrL (o::r) (l::L) (ρ::R):=⟨l,L,ρ,R,rfl,rfl,h,k⟩
def ShrL.shl:∀{st:Sto}{L:List (List Nat)}{R:List ((Nat→Nat)→SO)},ShrL st L R→ShL st L
 |[],_,_,h=>h.1
 |o::r,_,_,h=>by
  obtain⟨l,L',ρ,R',rfl,rfl,h1,h2⟩:=h;exact .cons h1.sh h2.shl
theorem j5o:∀{n:Nat}{x:PV}{g:Nat→Nat},pur n x=true→j1p g n x=x
 |0,x,g,h=>by simp[pur] at h
 |n+1,x,g,h=>by
  have hA:∀{l:List PV},l.all (pur n)=true→l.map (j1p g n)=l:=fun{l} hl=>by
   rw[AF] at hl;rw[DL (g:=id) (fun y hy=>by rw[j5o (hl y hy)];rfl),GM]
  cases x with
  |ag cs=>simp only[pur] at h;simp only[j1p,hA h]
  |tu cs=>simp only[pur] at h;simp only[j1p,hA h]
  |fn f a b=>simp only[pur,AB] at h;simp only[j1p,hA h.1,hA h.2]
  |ifc t x=>simp only[pur] at h;simp only[j1p,j5o h]
  |_=>first|(simp[pur] at h;done)|rfl
def j6a{b:Code}(h1:ρ.flatMap (fun p=>ids 8 p.2)=l)(h2:ρ.all (fun p=>j0e (fun j=>l.elem j) 8 p.2)=true):Sh (.lp ρ ps a b s) l:=
 ⟨h1,fun f hf=>AF.2 fun x hx=>j7s (fun i hi=>hf i (by simpa using hi)) (AF.1 h2 x hx)⟩
def j07(h1:cs.flatMap (ids 8)=l)(h2:cs.all (j0e (fun j=>l.elem j) 8)=true):Shr (.box T cs) l (fun g=>.box T (cs.map (j1p g 8))):=⟨j02 h1 h2,fun _=>rfl⟩
def j0Q{b:Code}(h1:ρ.flatMap (fun p=>ids 8 p.2)=l)(h2:ρ.all (fun p=>j0e (fun j=>l.elem j) 8 p.2)=true):Shr (.lp ρ ps a b s) l (fun g=>.lp (ρ.map fun p=>(p.1,j1p g 8 p.2)) ps a b s):=⟨j6a h1 h2,fun _=>rfl⟩
def j2i:Shr .dead [] (fun _=>.dead):=⟨j0l,fun _=>rfl⟩
theorem j0o(h:cs.all (pur 8)=true):Shr (.row b T z cs) [] (fun _=>.row b T z cs):=by
 refine⟨j05 h,fun g=>?_⟩
 rw[AF] at h;simp only[j4x];congr 1;rw[DL (g:=id) (fun y hy=>by rw[j5o (h y hy)];rfl),GM]
theorem jaU(h:cs.all (pur 8)=true):Shr (.box T cs) [] (fun _=>.box T cs):=by
 have hr:=j05 (b:=true) (T:=T) (z:=0) h;refine⟨⟨hr.1,fun f hf=>hr.2 f hf⟩,fun g=>?_⟩
 rw[AF] at h;simp only[j4x];congr 1;rw[DL (g:=id) (fun y hy=>by rw[j5o (h y hy)];rfl),GM]
def ShrL.get:∀{st:Sto}{L:List (List Nat)}{R:List ((Nat→Nat)→SO)},ShrL st L R→∀{i:Nat}{l:List Nat}{ρ:(Nat→Nat)→SO},L[i]?=some l→R[i]?=some ρ→∃o,st[i]?=some o∧Shr o l ρ
 |[],_,_,h,i,l,ρ,h1,h2=>by rw[h.1] at h1;simp at h1
 |o::r,_,_,h,i,l,ρ,h1,h2=>by
  obtain⟨l0,L',ρ0,R',rfl,rfl,h3,h4⟩:=h;cases i with
  |zero=>simp at h1 h2;subst h1;subst h2;exact⟨o,rfl,h3⟩
  |succ i=>simpa using h4.get (i:=i) (by simpa using h1) (by simpa using h2)
def jbu(L:List (List Nat))(R:List ((Nat→Nat)→SO))(g:Nat→Nat)(f:Nat→Bool):List Nat→Option Sto
 |[]=>some []
 |i::π=>match L[i]?,R[i]? with
  |some l,some ρ=>match l.all f with
   |true=>match jbu L R g f π with
    |some r=>some (ρ g::r)
    |none=>none
   |false=>none
  |_,_=>none
def j8A{st:Sto}{L:List (List Nat)}{R:List ((Nat→Nat)→SO)}(h:ShrL st L R){g:Nat→Nat}{f:Nat→Bool}:∀{π:List Nat}{st0:Sto},jbu L R g f π=some st0→fetch g f st π=some st0
 |[],st0,hx=>by
  simp only[jbu,AD] at hx;subst hx;rfl
 |i::π,st0,hx=>by
  unfold jbu at hx;split at hx
  ·rename_i l ρ h1 h2;split at hx
   ·rename_i hl;split at hx
    ·rename_i r hr;cases hx;obtain⟨o,h3,h4⟩:=h.get h1 h2;have ih:=j8A h hr;have hA:soIn f o=true:=h4.sh.2 f fun i hi=>AF.1 hl i hi
     unfold fetch at ih⊢;simp only[mapO,h3,hA,h4.ren,ih]
    ·cases hx
   ·cases hx
  ·cases hx
def putR(g:Nat→Nat):List Nat→List ((Nat→Nat)→SO)→Sto→Sto
 |i::π,ρ::R,st=>putR g π R (st.set i (ρ g))
 |_,_,st=>st
def jdH{g:Nat→Nat}:∀{π:List Nat}{os st:Sto}{L:List (List Nat)}{R:List ((Nat→Nat)→SO)},ShrL os L R→j2s g π os st=putR g π R st
 |[],os,st,L,R,h=>by cases R<;>simp[j2s,putR]
 |i::π,[],st,L,R,h=>by rw[h.2];simp[j2s,putR]
 |i::π,o::os,st,L,R,h=>by
  obtain⟨l0,L',ρ0,R',rfl,rfl,h3,h4⟩:=h;simp only[j2s,putR,h3.ren,jdH h4]
def ShrL.map{g:Nat→Nat}:∀{st:Sto}{L:List (List Nat)}{R:List ((Nat→Nat)→SO)},ShrL st L R→st.map (j4x g)=R.map fun ρ=>ρ g
 |[],_,_,h=>by rw[h.2];rfl
 |o::r,_,_,h=>by
  obtain⟨l0,L',ρ0,R',rfl,rfl,h3,h4⟩:=h;simp only[BC,h3.ren,h4.map]
def ShrL.drop:∀{st:Sto}{L:List (List Nat)}{R:List ((Nat→Nat)→SO)}(k:Nat),ShrL st L R→ShrL (st.drop k) (L.drop k) (R.drop k)
 |_,_,_,0,h=>by simpa using h
 |[],_,_,k+1,h=>by rw[h.1,h.2];exact .nil
 |o::r,_,_,k+1,h=>by
  obtain⟨l0,L',ρ0,R',rfl,rfl,h3,h4⟩:=h;simpa using h4.drop k
def ShL.get:∀{st:Sto}{L:List (List Nat)},ShL st L→∀{i:Nat}{o:SO},st[i]?=some o→∃l,L[i]?=some l∧Sh o l
 |[],_,h,i,o,h1=>by simp at h1
 |q::r,_,h,i,o,h1=>by
  obtain⟨l,L',rfl,h2,h3⟩:=h;cases i with
  |zero=>simp at h1;subst h1;exact⟨l,rfl,h2⟩
  |succ i=>simpa using h3.get (i:=i) (by simpa using h1)
section
variable{C:Cfg}
variable{r:AEnd}{K Q:AEnd→Sto→Prop}{f:FuncId}{R:List ((Nat→Nat)→SO)}{L:List (List Nat)}{π:List Nat}{args0 rs:List PV}{k0:Nat}{st st' st0 st1:Sto}
def j1e{args args':List PV}(hw:handed C f args st=some (args',st1))(hp:args'.all (pur 8)=false)(hs:ShrL st1 L R)(hπ:(jab L 64 (args'.flatMap (ids 8)) []).reverse=π)
  (hi:args'.all (j0e (fun i=>π.elem i) 8)=true) (hf:jbu L R (fun i=>place i 0 π) (fun i=>π.elem i) π=some st0) (ha:args'.map (j1p (fun i=>place i 0 π) 8)=args0)
  (h:Finds C f args0 st0 fun r st2=>VBack π st1 r st2 K):VCall C f args st K:=
 j0K hw hp (by rw[j7n hs.shl];exact hπ) hi (j8A hs hf) ha h
theorem j3k{id:Nat}{vs vs':List PV}{K:AR→Prop}(hw:pubL C vs st=some (vs',st1))(hs:ShrL st1 L R)(hπ:(jab L 64 ((PV.yl id::vs').flatMap (ids 8)) []).reverse=π)
  (hi:(PV.yl id::vs').all (j0e (fun i=>π.elem i) 8)=true) (hf:jbu L R (fun i=>place i 0 π) (fun i=>π.elem i) π=some st0) (ha:(PV.yl id::vs').map (j1p (fun i=>place i 0 π) 8)=args0)
  (h:FindsY C args0 st0 fun r st2=>VBack π st1 r st2 fun r st'=>match r with
   | .ret rs=>K (.val (retV rs) st')
   | .pan _=>False):VYield C id vs st K:=
 jsq hw (by rw[j7n hs.shl];exact hπ) hi (j8A hs hf) ha h
def j1A(hs:ShrL st1 L R)(hi:(jbo (fun j=>Nat.blt j st1.length) r&&L.all (fun l=>l.all fun j=>Nat.blt j st1.length))=true)
  (k:K (j5n (back π st.length) r) (putR (back π st.length) π R st++(R.drop π.length).map (fun ρ=>ρ (back π st.length)))):VBack π st r st1 K:=by
 rw[AB] at hi;refine j1z (by rw[hi.1,hs.shl.soIn hi.2];rfl) ?_
 rw[jdH hs,(hs.drop π.length).map];exact k
def fpv(v:PV)(k:PV→Prop):Prop:=match v with
 | .sc x=>k (.sc x)
 | .sl b z xs=>k (.sl b z xs)
 | .ms i n=>k (.ms i n)
 |v=>k v
def jue{v:PV}{k:PV→Prop}:fpv v k↔k v:=by cases v<;>exact Iff.rfl
def fpvs:List PV→(List PV→Prop)→Prop
 |[],k=>k []
 |v::r,k=>fpv v fun v'=>fpvs r fun r'=>k (v'::r')
def jo0:∀{cs:List PV}{k:List PV→Prop},fpvs cs k↔k cs
 |[],_=>Iff.rfl
 |v::r,k=>by
  unfold fpvs;rw[jue];exact jo0 (cs:=r) (k:=fun r'=>k (v::r'))
def fso(o:SO)(k:SO→Prop):Prop:=match o with
 | .box T cs=>fpvs cs fun cs'=>k (.box T cs')
 | .lp ρ ps a b s=>k (.lp ρ ps a b s)
 | .row p e z xs=>k (.row p e z xs)
 | .frz cs=>k (.frz cs)
 | .mp ks vs=>k (.mp ks vs)
 | .ch c q=>k (.ch c q)
 | .dead=>k .dead
def juf{o:SO}{k:SO→Prop}:fso o k↔k o:=by
 cases o with
 |box T cs=>exact jo0 (cs:=cs) (k:=fun cs'=>k (.box T cs'))
 |_=>exact Iff.rfl
def fsto:Sto→(Sto→Prop)→Prop
 |[],k=>k []
 |o::r,k=>fso o fun o'=>fsto r fun r'=>k (o'::r')
def jo1:∀{st:Sto}{k:Sto→Prop},fsto st k↔k st
 |[],_=>Iff.rfl
 |o::r,k=>by
  unfold fsto;rw[juf];exact jo1 (st:=r) (k:=fun r'=>k (o::r'))
def j4w(hs:ShrL st1 L R)(hi:(jbo (fun j=>Nat.blt j st1.length) r&&L.all (fun l=>l.all fun j=>Nat.blt j st1.length))=true)
  (k:fsto (putR (back π st.length) π R st++(R.drop π.length).map (fun ρ=>ρ (back π st.length))) fun st'=>K (j5n (back π st.length) r) st'):VBack π st r st1 K:=j1A hs hi (jo1.1 k)
def j1R{r':AEnd}(hs:ShrL st1 L R)(hi:(jbo (fun j=>Nat.blt j st1.length) r&&L.all (fun l=>l.all fun j=>Nat.blt j st1.length))=true)
  (hr:j5n (back π st.length) r=r') (ht:putR (back π st.length) π R st++(R.drop π.length).map (fun ρ=>ρ (back π st.length))=st') (k:K r' st'):VBack π st r st1 K:=by
 subst hr;subst ht;exact j1A hs hi k
def j2a(hs:ShrL st L R)(hπ:j8h 0 k0++j3N k0 (st.drop k0)=π)(hb:Nat.beq π.length st.length=false)(hi:rs.all (j0e (fun i=>π.elem i) 8)=true)
  (hf:jbu L R (fun i=>place i 0 π) (fun i=>π.elem i) π=some st'):squeeze k0 rs st=(rs.map (j1p (fun i=>place i 0 π) 8),st'):=by
 unfold squeeze;rw[hπ];unfold j7a;simp only[hb,hi,j8A hs hf]
def j0L(hb:Nat.beq (j8h 0 k0++j3N k0 (st.drop k0)).length st.length=true):squeeze k0 rs st=(rs,st):=by
 unfold squeeze j7a;simp only[hb]
def j1g{rs1 rs2:List PV}{st2 st3:Sto}(hp:(C.keep f=true∧rs1=rs∧st1=st)∨(C.keep f=false∧pubL C rs st=some (rs1,st1)))(hn:(rs1.all (pur 8)&&(st1.take k0).all (soIn fun i=>Nat.blt i k0))=false)(hg:gc k0 (rs1.map fun r=>(0,r)) st1=st2)(hs:squeeze k0 rs1 st2=(rs2,st3))(k:Q (.ret rs2) st3):VRet C f k0 rs st Q:=by
 refine⟨rs2,st3,?_,k⟩;unfold aret;rcases hp with⟨h1,rfl,rfl⟩|⟨h1,h2⟩
 ·simp only[h1,hn,hg,hs]
 ·simp only[h1,h2,hn,hg,hs]
def j1h(hp:rs.all (pur 8)=true)(ht:st.take k0=st')(hs:ShrL st' L R)(hL:L.all (fun l=>l.all fun i=>Nat.blt i k0)=true)(k:Q (.ret rs) st'):VRet C f k0 rs st Q:=by
 subst ht;exact vret_take hp (hs.shl.soIn hL) k
def j6g(ht:st.take k0=st')(hs:ShrL st' L R)(hL:L.all (fun l=>l.all fun i=>Nat.blt i k0)=true):j1I k0 st=st':=by
 subst ht;unfold j1I;simp only[hs.shl.soIn hL]
end
end Go.Am
namespace Go.Gw
open Go
mutual
def eqLv:Lv→Lv→Bool
 | .mk k n ls,.mk k' n' ls'=>decide (k=k')&&(decide (n=n')&&(decide (ls.length=ls'.length)&&j5I ls ls'))
def j5I:List Lv→List Lv→Bool
 |l::r,m::s=>eqLv l m&&j5I r s
 |_,_=>true
end
mutual
theorem jsY:∀(l m:Lv),eqLv l m=true↔l=m
 | .mk k n ls,.mk k' n' ls'=>by
  simp only[eqLv,AB,decide_eq_true_eq,Lv.mk.injEq];constructor
  ·rintro⟨h1,h2,h3,h4⟩;exact⟨h1,h2,(j8z ls ls' h3).1 h4⟩
  ·rintro⟨rfl,rfl,rfl⟩;exact⟨rfl,rfl,rfl,(j8z ls ls rfl).2 rfl⟩
theorem j8z:∀(ls ms:List Lv),ls.length=ms.length→(j5I ls ms=true↔ls=ms)
 |[],[],_=>by simp[j5I]
 |l::r,m::s,h=>by
  simp only[j5I,AB,GK];rw[jsY l m,j8z r s (by simpa using h)]
 |[],_::_,h=>by simp at h
 |_::_,[],h=>by simp at h
end
mutual
def eqTm:Tm→Tm→Bool
 | .mk k n s ls ts,.mk k' n' s' ls' ts'=>decide (k=k')&&(decide (n=n')&&((s == s')&&(decide (ls.length=ls'.length)&&(decide (ts.length=ts'.length)&&(j5I ls ls'&&j9B ts ts')))))
def j9B:List Tm→List Tm→Bool
 |l::r,m::s=>eqTm l m&&j9B r s
 |_,_=>true
end
mutual
theorem jes:∀(l m:Tm),eqTm l m=true↔l=m
 | .mk k n s ls ts,.mk k' n' s' ls' ts'=>by
  simp only[eqTm,AB,decide_eq_true_eq,beq_iff_eq,Tm.mk.injEq];constructor
  ·rintro⟨h1,h2,h3,h4,h5,h6,h7⟩;exact⟨h1,h2,h3,(j8z ls ls' h4).1 h6,(jet ts ts' h5).1 h7⟩
  ·rintro⟨rfl,rfl,rfl,rfl,rfl⟩;exact⟨rfl,rfl,rfl,rfl,rfl,(j8z ls ls rfl).2 rfl,(jet ts ts rfl).2 rfl⟩
theorem jet:∀(ls ms:List Tm),ls.length=ms.length→(j9B ls ms=true↔ls=ms)
 |[],[],_=>by simp[j9B]
 |l::r,m::s,h=>by
  simp only[j9B,AB,GK];rw[jes l m,jet r s (by simpa using h)]
 |[],_::_,h=>by simp at h
 |_::_,[],h=>by simp at h
end
mutual
def useN:Tm→Int→Int
 | .mk _ _ s ls ts,q=>min (jcn ts (lnFs ls (1+((s.length/16:Nat):Int)) q) q) (q+1)
def jcn:List Tm→Int→Int→Int
 |[],acc,_=>acc
 |t::r,acc,q=>if acc≤q then jcn r (acc+useN t q) q else acc
end
mutual
def refN:Tm→Int→Int
 | .mk _ _ _ ls ts,q=>min (j8e ts (lnFs ls 1 q) q) (q+1)
def j8e:List Tm→Int→Int→Int
 |[],acc,_=>acc
 |t::r,acc,q=>if acc≤q then j8e r (acc+refN t q) q else acc
end

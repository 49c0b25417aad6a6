/- Rows of the run's own: out of a block that was written out; looked at in the middle of a run. Plain lemmas. -/
import Derived.Test.YtbnodhcijeaceaaGreatDoorXBs
import Derived.Lib.Strings
set_option linter.all false
namespace Go.Gw
open Go
section
variable{E:Entry}{P:Program}{n:Nat}{K:Exit→St→Prop}{ρ:Env}{m:Mem}{μ:Own}{D:List Deferred}{ops:Array Oper}{rest:List Oper}
 {d:Nat}{ty:TypeId}{pos:String}{after:Array Edge}
variable{dst:Option Nat}{gd:Option (Nat×Bool)}{T T':TypeId}{x y z:Operand}{i j:Int}
end
open Go
abbrev str(l:List UInt8):Value:=.string ⟨l.toArray⟩
theorem jbC(s:ByteArray):Value.string s=str s.data.toList:=by cases s;simp
theorem j7Q(l:List UInt8):(⟨l.toArray⟩:ByteArray).toList=l:=by rw[Lib.toList_data]
theorem j2K(l:List UInt8):(⟨l.toArray⟩:ByteArray).size=l.length:=by simp[ByteArray.size]
theorem jmc(a b:List UInt8):(⟨a.toArray⟩:ByteArray)++(⟨b.toArray⟩:ByteArray)=⟨(a++b).toArray⟩:=by
 apply ByteArray.ext;simp
theorem j6O(l:List UInt8)(i j:Nat):(⟨l.toArray⟩:ByteArray).extract i j=⟨((l.drop i).take (j-i)).toArray⟩:=by
 apply ByteArray.ext;simp[List.extract_eq_take_drop]
section
variable{E:Entry}{P:Program}{n:Nat}{ρ:Env}{m:Mem}{μ:Own}{ty:TypeId}{pos:String}{after:Array Edge}
variable{dst:Option Nat}{gd:Option (Nat×Bool)}{T T':TypeId}{x y z:Operand}{i j:Int}{a b:List UInt8}
end
open Go
inductive Lv where
 |mk (k n:Int) (ls:List Lv)
mutual
theorem Lv.ind{P:Lv→Prop}(h:∀k n ls,(∀l∈ls,P l)→P (.mk k n ls)):∀l,P l
 | .mk k n ls=>h k n ls (Lv.inds h ls)
theorem Lv.inds{P:Lv→Prop}(h:∀k n ls,(∀l∈ls,P l)→P (.mk k n ls)):∀ls:List Lv,∀l∈ls,P l
 |[],_,hl=>by cases hl
 |x::r,l,hl=>by
  rcases List.mem_cons.1 hl with e|e
  ·rw[e];exact Lv.ind h x
  ·exact Lv.inds h r l e
end
mutual
def LvV(m:Mem):Lv→List Value→Prop
 | .mk k n ls,cs=>i64 k∧i64 n∧∃a cap,cs=[.int .i64 k,.int .i64 n,.slice a ls.length cap]∧(ls.length≤cap∧ls.length≤3518437208780)∧(ls=[]∨∃b off,a=some ⟨b,off,none⟩∧LvsV m ls b off)
def LvsV(m:Mem):List Lv→Nat→Nat→Prop
 |[],_,_=>True
 |l::r,b,off=>(∃cs,RdN m b off cs∧LvV m l cs)∧LvsV m r b (off+3)
end
mutual
theorem LvV.mono{m m':Mem}(hle:Mem.le m m'):∀{l:Lv}{cs:List Value},LvV m l cs→LvV m' l cs
 | .mk k n ls,cs,h=>by
  simp only[LvV] at h⊢;obtain⟨h1,h2,a,cap,h3,h4,h5⟩:=h;refine⟨h1,h2,a,cap,h3,h4,?_⟩;rcases h5 with h5|⟨b,off,h6,h7⟩
  ·exact .inl h5
  ·exact .inr ⟨b,off,h6,LvsV.mono hle h7⟩
theorem LvsV.mono{m m':Mem}(hle:Mem.le m m'):∀{ls:List Lv}{b off:Nat},LvsV m ls b off→LvsV m' ls b off
 |[],_,_,_=>trivial
 |l::r,b,off,h=>by
  simp only[LvsV] at h⊢;obtain⟨⟨cs,h1,h2⟩,h3⟩:=h;exact⟨⟨cs,h1.mono hle,LvV.mono hle h2⟩,LvsV.mono hle h3⟩
end
theorem LvsV.at{m:Mem}:∀{ls:List Lv}{b off i:Nat}{l:Lv},LvsV m ls b off→ls[i]?=some l→∃cs,RdN m b (off+i*3) cs∧LvV m l cs
 |[],_,_,_,_,_,h=>by simp at h
 |x::r,b,off,0,l,h,e=>by
  simp only[List.getElem?_cons_zero,Option.some.injEq] at e;subst e;simpa[LvsV] using h.1
 |x::r,b,off,i+1,l,h,e=>by
  simp only[List.getElem?_cons_succ] at e;simp only[LvsV] at h;have:=LvsV.at h.2 e;have he:off+3+i*3=off+(i+1)*3:=by omega
  rwa [he] at this
mutual
def j1G:Lv→Int→Int
 | .mk _ _ ls,left=>j0x ls (left-1)
def j0x:List Lv→Int→Int
 |[],left=>left
 |l::r,left=>if left<0 then left else j0x r (j1G l left)
end
mutual
theorem j5Z:∀(l:Lv) (left:Int),0≤left→-1≤j1G l left∧j1G l left≤left
 | .mk _ _ ls,left,h=>by
  simp only[j1G];have:=j4z ls (left-1) (by omega)
  omega
theorem j4z:∀(ls:List Lv) (left:Int),-1≤left→-1≤j0x ls left∧j0x ls left≤left
 |[],left,h=>by simp only[j0x];omega
 |l::r,left,h=>by
  simp only[j0x];split
  ·omega
  ·have h1:=j5Z l left (by omega)
   have h2:=j4z r (j1G l left) (by omega)
   omega
end
theorem j3P(ls:List Lv)(left:Int)(h:left<0):j0x ls left=left:=by
 cases ls<;>simp[j0x,h]
variable{k n p z:Int}{ls:List Lv}{l x:Lv}{m m':Mem}{i q:Nat}{α:Type}{sv:Value}
theorem take_snoc'{l:List α}{x:α}(h:l[i]?=some x):l.take (i+1)=l.take i++[x]:=by
 obtain⟨h1,h2⟩:=List.getElem?_eq_some_iff.1 h;rw[List.take_succ_eq_append_getElem h1,h2]
theorem drop_at{l:List α}{x:α}(h:l[i]?=some x):l.drop i=x::l.drop (i+1):=by
 obtain⟨h1,h2⟩:=List.getElem?_eq_some_iff.1 h;rw[List.drop_eq_getElem_cons h1,h2]
def Lv.kind:Lv→Int | .mk k _ _=>k
def Lv.num:Lv→Int | .mk _ n _=>n
def Lv.args:Lv→List Lv | .mk _ _ ls=>ls
def jgU(k:Int):Int:=if k=1∨k=2 then 0 else if k=3 then 1 else if k=4∨k=5 then 2 else -1
def j6t(l:Lv):Int:=64-max (j1G l 64) (-1)
def ja0:Lv→Int→Bool
 | .mk k n ls,p=>if(ls.length:Int)=jgU k then(if k=1 then decide (0≤n∧n≤100) else if k=2 then decide (0≤n∧n<p) else decide (n=0)) else false
mutual
def allF:Lv→Int→Bool
 | .mk k n ls,p=>ja0 (.mk k n ls) p&&j4s ls p
def j4s:List Lv→Int→Bool
 |[],_=>true
 |l::r,p=>allF l p&&j4s r p
end
def j0y(l:Lv)(p:Int):Bool:=decide (0≤p)&&(decide (p≤4)&&(decide (j6t l≤64)&&allF l p))
theorem jjp(a b:Int):(if a<b then b else a)=max a b:=by
 by_cases h:a<b
 ·rw[if_pos h];omega
 ·rw[if_neg h];omega
theorem LvV.open{cs:List Value}(h:LvV m l cs):∃k n ls a cap,l=.mk k n ls∧cs=[.int .i64 k,.int .i64 n,.slice a ls.length cap]∧i64 k∧i64 n∧ls.length≤3518437208780 ∧
  (∀i x,ls[i]?=some x→∃b off k1 n1 l1 a1 cap1,a=some ⟨b,off,none⟩∧x=.mk k1 n1 l1∧RdN m b (off+i*3) [.int .i64 k1,.int .i64 n1,.slice a1 l1.length cap1]∧LvV m x [.int .i64 k1,.int .i64 n1,.slice a1 l1.length cap1]):=by
 obtain⟨k,n,ls⟩:=l;have h0:=h;simp only[LvV] at h;obtain⟨h1,h2,a,cap,rfl,h4,h5⟩:=h;refine⟨k,n,ls,a,cap,rfl,rfl,h1,h2,h4.2,fun i x hx=>?_⟩
 obtain⟨b,off,rfl,hb⟩:=h5.resolve_left (fun e=>by rw[e] at hx;simp at hx)
 obtain⟨cc,hrd,hlv⟩:=LvsV.at hb hx;obtain⟨k1,n1,l1⟩:=x;have hlv':=hlv;simp only[LvV] at hlv';obtain⟨_,_,a1,cap1,rfl,_,_⟩:=hlv';exact⟨b,off,k1,n1,l1,a1,cap1,rfl,rfl,hrd,hlv⟩
def jsF(k n:Int)(vs:List Int)(f:Int→Int):Int:=
 if k=1 then n else if k=2 then f n else if k=3 then vs.getD 0 0+1 else if k=5∧vs.getD 1 0=0 then 0 else max (vs.getD 0 0) (vs.getD 1 0)
mutual
def valF:Lv→(Int→Int)→Int
 | .mk k n ls,f=>jsF k n (jtF ls f) f
def jtF:List Lv→(Int→Int)→List Int
 |[],_=>[]
 |l::r,f=>valF l f::jtF r f
end
mutual
def j0G:Lv→Nat
 | .mk _ _ ls=>j09 ls+1
def j09:List Lv→Nat
 |[]=>0
 |l::r=>j0G l+j09 r
end
theorem jgD:∀{ls:List Lv}{i:Nat}{x:Lv},ls[i]?=some x→j0G x≤j09 ls
 |[],_,_,h=>by simp at h
 |l::r,0,x,h=>by simp at h;subst h;simp only[j09];omega
 |l::r,i+1,x,h=>by
  have:=jgD (ls:=r) (i:=i) (x:=x) (by simpa using h)
  simp only[j09];omega
theorem jeL(h:j0G (.mk k n ls)≤q)(hx:ls[i]?=some x):j0G x≤q:=by
 have:=jgD hx;simp only[j0G] at h;omega
theorem j5a:∀{ls:List Lv}{i:Nat}{x:Lv}{p:Int},j4s ls p=true→ls[i]?=some x→allF x p=true
 |[],_,_,_,_,h=>by simp at h
 |l::r,0,x,p,h,e=>by simp at e;subst e;simp only[j4s,Bool.and_eq_true] at h;exact h.1
 |l::r,i+1,x,p,h,e=>by
  simp only[j4s,Bool.and_eq_true] at h;exact j5a h.2 (by simpa using e)
theorem j8N(h:allF (.mk k n ls) p=true)(hx:ls[i]?=some x):allF x p=true:=by
 simp only[allF,Bool.and_eq_true] at h;exact j5a h.2 hx
theorem ja3(h:allF (.mk k n ls) p=true):ja0 (.mk k n ls) p=true:=by
 simp only[allF,Bool.and_eq_true] at h;exact h.1
theorem j6U(h:ja0 (.mk k n ls) p=true):
  (k=1∧ls=[]∧0≤n∧n≤100)∨(k=2∧ls=[]∧0≤n∧n<p)∨(k=3∧n=0∧∃x,ls=[x])∨((k=4∨k=5)∧n=0∧∃x y,ls=[x,y]):=by
 simp only[ja0] at h;split at h
 ·rename_i hw;unfold jgU at hw
  by_cases h1:k=1
  ·subst h1;simp at h hw;exact .inl ⟨rfl,hw,h⟩
  ·by_cases h2:k=2
   ·subst h2;simp at h hw;exact .inr (.inl ⟨rfl,hw,h⟩)
   ·rw[if_neg (by omega)] at hw
    simp only[h1,h2,if_false,decide_eq_true_eq] at h
    by_cases h3:k=3
    ·subst h3;simp at hw;refine .inr (.inr (.inl ⟨rfl,h,?_⟩));match ls,hw with
     |[x],_=>exact⟨x,rfl⟩
     |[],hw=>simp at hw
     |_::_::_,hw=>simp at hw;omega
    ·rw[if_neg h3] at hw
     by_cases h4:k=4∨k=5
     ·rw[if_pos h4] at hw;refine .inr (.inr (.inr ⟨h4,h,?_⟩));match ls,hw with
      |[x,y],_=>exact⟨x,y,rfl⟩
      |[],hw=>simp at hw
      |[_],hw=>simp at hw
      |_::_::_::_,hw=>simp at hw;omega
     ·rw[if_neg h4] at hw;omega
 ·cases h
theorem jm7(h:allF (.mk k n ls) p=true)(hk:k=2):0≤n∧n<p:=by
 rcases j6U (ja3 h) with⟨h1,_⟩|⟨_,_,h2⟩|⟨h1,_⟩|⟨h1,_⟩<;>omega
theorem jp7(h:allF (.mk k n ls) p=true)(hk:k=3):∃x,ls=[x]:=by
 rcases j6U (ja3 h) with⟨h1,_⟩|⟨h1,_⟩|⟨_,_,h2⟩|⟨h1,_⟩
 ·omega
 ·omega
 ·exact h2
 ·omega
theorem jrI(h:allF (.mk k n ls) p=true)(h1:k≠1)(h2:k≠2)(h3:k≠3):∃x y,ls=[x,y]:=by
 rcases j6U (ja3 h) with⟨e,_⟩|⟨e,_⟩|⟨e,_⟩|⟨_,_,e⟩
 ·omega
 ·omega
 ·omega
 ·exact e
def IntsV(m:Mem)(vs:List Int)(sv:Value):Prop:=∃a cap,sv=.slice a vs.length cap∧vs.length≤cap∧vs.length≤140737488355328∧∀i v,vs[i]?=some v→∃b off,a=some ⟨b,off,none⟩∧Rd m b (off+i*1) (.int .i64 v)
theorem IntsV.mono{vs:List Int}(h:IntsV m vs sv)(hle:Mem.le m m'):IntsV m' vs sv:=by
 obtain⟨a,cap,h1,h2,h3,h4⟩:=h;exact⟨a,cap,h1,h2,h3,fun i v hv=>by obtain⟨b,off,h5,h6⟩:=h4 i v hv;exact⟨b,off,h5,h6.mono hle⟩⟩
def jiK(vs:List Int)(i:Int):Int:=match vs[i.toNat]? with
 |some v=>min (max v 0) 1048576
 |none=>0
def jtR(vs:List Int)(g i:Nat):Int:=if i<g then jiK vs i else 0
def jug(l:Lv)(vs:List Int):Int:=if j0y l 4=true then valF l (jiK vs) else 0
mutual
theorem jfv:∀(l:Lv) (left:Int),0≤left→((j0G l:Int)≤left→j1G l left=left-j0G l)∧(left<(j0G l:Int)→j1G l left = -1)
 | .mk k n ls,left,h=>by
  have e:j0G (.mk k n ls)=j09 ls+1:=by simp[j0G]
  have h1:=j8V ls (left-1) (by omega)
  have e2:j1G (.mk k n ls) left=j0x ls (left-1):=by simp[j1G]
  rw[e,e2];refine⟨fun h2=>?_,fun h2=>?_⟩
  ·rw[h1.1 (by omega)];omega
  ·by_cases h3:ls=[]
   ·subst h3;simp[j09] at h2;simp[j0x];omega
   ·exact h1.2 (by omega) h3
theorem j8V:∀(ls:List Lv) (left:Int),-1≤left→((j09 ls:Int)≤left→j0x ls left=left-j09 ls)∧(left<(j09 ls:Int)→ls≠[]→j0x ls left = -1)
 |[],left,h=>by simp[j0x,j09]
 |l::r,left,h=>by
  have hp:1≤j0G l:=by cases l;simp[j0G]
  have e:j09 (l::r)=j0G l+j09 r:=by simp[j09]
  rw[e]
  by_cases h0:left<0
  ·have e2:j0x (l::r) left=left:=by simp[j0x,h0]
   rw[e2];exact⟨fun h2=>by omega,fun _ _=>by omega⟩
  ·have e2:j0x (l::r) left=j0x r (j1G l left):=by simp[j0x,h0]
   have h1:=jfv l left (by omega)
   rw[e2]
   by_cases h3:(j0G l:Int)≤left
   ·rw[h1.1 h3];have h4:=j8V r (left-j0G l) (by omega)
    refine⟨fun h2=>by rw[h4.1 (by omega)];omega,fun h2 _=>?_⟩
    by_cases h5:r=[]
    ·subst h5;simp[j09] at h2;omega
    ·exact h4.2 (by omega) h5
   ·rw[h1.2 (by omega),j3P _ _ (by omega)]
    exact⟨fun h2=>by omega,fun _ _=>rfl⟩
end
theorem j8r(l:Lv):j6t l=min (j0G l:Int) 65:=by
 unfold j6t;have h:=jfv l 64 (by omega)
 by_cases h1:(j0G l:Int)≤64
 ·rw[h.1 h1];omega
 ·rw[h.2 (by omega)];omega
theorem jbv(h:j0y l p=true):allF l p=true:=by
 simp only[j0y,Bool.and_eq_true] at h;exact h.2.2.2
theorem ji5(h:j0y l p=true):j0G l≤64:=by
 simp only[j0y,Bool.and_eq_true,decide_eq_true_eq,j8r] at h;omega
theorem j9q(h:j0y l p=true):j0G l≤100000:=by
 have:=ji5 h;omega
structure Fm where
 num:Int
 off:Nat→Int
def Fm.cells(f:Fm):List Value:=[.int .i64 f.num,.int .i64 (f.off 0),.int .i64 (f.off 1),.int .i64 (f.off 2),.int .i64 (f.off 3)]
def Fm.v(f:Fm):Value:=.agg #[.int .i64 f.num,.int .i64 (f.off 0),.int .i64 (f.off 1),.int .i64 (f.off 2),.int .i64 (f.off 3)]
def Fm.ok(f:Fm)(q:Int):Prop:=(-1≤f.num∧f.num≤q)∧∀j,-1≤f.off j∧f.off j≤q
def jum(g:Nat)(F G:Nat→Int)(j:Nat):Int:=if j<g then G j else F j
def j2b(n:Int):Fm:=⟨n,fun _=>-1⟩
def rise(x:Int):Int:=if x = -1 then -1 else x+1
def jbu(f:Fm):Fm:=⟨rise f.num,fun j=>rise (f.off j)⟩
def jcc(f g:Fm):Fm:=⟨max f.num g.num,fun j=>max (f.off j) (g.off j)⟩
def jb4(f:Fm):Nat→Int
 |0=>f.num
 |g+1=>if f.off g = -1 then jb4 f g else max (jb4 f g) (f.off g+1)
def jnC(f:Fm):Int:=jb4 f 4
def j8s(f g:Fm):Nat→Bool
 |0=>true
 |i+1=>j8s f g i&&decide (f.off i≤g.off i)
def jcs(f g:Fm):Bool:=j8s f g 4&&decide (f.num≤jnC g)
def jsN(f:Fm):Bool:=decide (f.num=0)&&(decide (f.off 0 = -1)&&(decide (f.off 1 = -1)&&(decide (f.off 2 = -1)&&decide (f.off 3 = -1))))
def bit(z n:Int):Int:=z/2^n.toNat%2
def j8t(z n:Int):Fm:=if bit z n=0 then⟨-1,fun j=>if(j:Int)=n then 0 else -1⟩ else j2b 0
def j5t(k n:Int)(fs:List Fm)(z:Int):Fm:=
 if k=1 then j2b n else if k=2 then j8t z n else if k=3 then jbu (fs.getD 0 (j2b 0)) else if k=5∧jsN (fs.getD 1 (j2b 0))=true then fs.getD 1 (j2b 0) else jcc (fs.getD 0 (j2b 0)) (fs.getD 1 (j2b 0))
mutual
def j2y:Lv→Int→Fm
 | .mk k n ls,z=>j5t k n (jiZ ls z) z
def jiZ:List Lv→Int→List Fm
 |[],_=>[]
 |l::r,z=>j2y l z::jiZ r z
end
theorem jfR:j2y (.mk 3 n [x]) z=jbu (j2y x z):=by simp[j2y,jiZ,j5t]
theorem j8e{y:Lv}(h1:¬k=1)(h2:¬k=2)(h3:¬k=3):j2y (.mk k n [x,y]) z=if k=5∧jsN (j2y y z)=true then j2y y z else jcc (j2y x z) (j2y y z):=by simp[j2y,jiZ,j5t,h1,h2,h3]
theorem jiY(l:Lv):∀z:Int,allF l 4=true→(j2y l z).ok (100+j0G l):=by
 induction l using Lv.ind with
 |_ k n ls ih=>
  intro z hall;rcases j6U (ja3 hall) with⟨rfl,rfl,h1⟩|⟨rfl,rfl,h1⟩|⟨rfl,rfl,x,rfl⟩|⟨hk,rfl,x,y,rfl⟩
  ·simp[j2y,j5t,j2b,Fm.ok];omega
  ·have e:j2y (.mk 2 n []) z=j8t z n:=by simp[j2y,j5t]
   rw[e];unfold j8t
   ·split
    ·refine⟨by simp;omega,fun j=>?_⟩
     simp only;split<;>omega
    ·exact⟨by simp[j2b];omega,fun j=>by simp[j2b];omega⟩
  ·have h:=ih x (by simp) z (j8N hall (i:=0) rfl)
   rw[jfR];have hs:j0G (.mk 3 0 [x])=j0G x+1:=by simp[j0G,j09]
   rw[hs];refine⟨?_,fun j=>?_⟩
   ·have:=h.1;simp only[jbu,rise];split<;>omega
   ·have:=h.2 j;simp only[jbu,rise];split<;>omega
  ·have hx:=ih x (by simp) z (j8N hall (i:=0) rfl)
   have hy:=ih y (by simp) z (j8N hall (i:=1) rfl)
   rw[j8e (by omega) (by omega) (by omega)]
   have hs:j0G (.mk k 0 [x,y])=j0G x+j0G y+1:=by simp[j0G,j09]
   rw[hs];split
   ·exact⟨by have:=hy.1;omega,fun j=>by have:=hy.2 j;omega⟩
   ·refine⟨by have:=hx.1;have:=hy.1;simp only[jcc];omega,fun j=>by have:=hx.2 j;have:=hy.2 j;simp only[jcc];omega⟩
def jg6(a b:Lv):Nat→Bool
 |0=>true
 |z+1=>jg6 a b z&&jcs (j2y a z) (j2y b z)
def leqF(a b:Lv):Bool:=j0y a 4&&(j0y b 4&&jg6 a b 16)
theorem jhN{a b:Lv}(hi:i<16)(h:jcs (j2y a i) (j2y b i)=false):jg6 a b 16=false:=by
 have key:∀g,i<g→jg6 a b g=false:=by
  intro g
  induction g with
  |zero=>intro h';omega
  |succ g ih=>
   intro hg
   by_cases e:i=g
   ·subst e;simp[jg6,h]
   ·simp[jg6,ih (by omega)]
 exact key 16 hi
theorem jtv(h:0≤z):0≤z/2^q:=Int.ediv_nonneg h (Int.le_of_lt (Int.pow_pos (by omega)))
theorem jtw(h:0≤z)(h1:z<16):z/2^q<64:=by
 have h2:z/2^q≤z:=Int.ediv_le_self _ h;omega
theorem jt7{f:Fm}(h:f.ok (100+q))(hq:q≤100000):f.ok 1000000:=⟨by have:=h.1;omega,fun j=>by have:=h.2 j;omega⟩
def LvsS(m:Mem)(ls:List Lv)(sv:Value):Prop:=∃a cap,sv=.slice a ls.length cap∧ls.length≤cap∧ls.length≤3518437208780∧(ls=[]∨∃b off,a=some ⟨b,off,none⟩∧LvsV m ls b off)
theorem LvsS.mono(h:LvsS m ls sv)(hle:Mem.le m m'):LvsS m' ls sv:=by
 obtain⟨a,cap,h1,h2,h3,h4⟩:=h;refine⟨a,cap,h1,h2,h3,?_⟩;rcases h4 with h4|⟨b,off,h5,h6⟩
 ·exact .inl h4
 ·exact .inr ⟨b,off,h5,LvsV.mono hle h6⟩
theorem LvsS.open(h:LvsS m ls sv):∃a cap,sv=.slice a ls.length cap∧ls.length≤cap∧ls.length≤3518437208780 ∧
  (∀i x,ls[i]?=some x→∃b off k1 n1 l1 a1 cap1,a=some ⟨b,off,none⟩∧x=.mk k1 n1 l1∧RdN m b (off+i*3) [.int .i64 k1,.int .i64 n1,.slice a1 l1.length cap1]∧LvV m x [.int .i64 k1,.int .i64 n1,.slice a1 l1.length cap1]):=by
 obtain⟨a,cap,h1,h2,h3,h5⟩:=h;refine⟨a,cap,h1,h2,h3,fun i x hx=>?_⟩
 obtain⟨b,off,rfl,hb⟩:=h5.resolve_left (fun e=>by rw[e] at hx;simp at hx)
 obtain⟨cc,hrd,hlv⟩:=LvsV.at hb hx;obtain⟨k1,n1,l1⟩:=x;have hlv':=hlv;simp only[LvV] at hlv';obtain⟨_,_,a1,cap1,rfl,_,_⟩:=hlv';exact⟨b,off,k1,n1,l1,a1,cap1,rfl,rfl,hrd,hlv⟩
theorem LvsS.tail{r:List Lv}{b off cap:Nat}(h:LvsS m (x::r) (.slice (some ⟨b,off,none⟩) (x::r).length cap))(hr:cap≠1):LvsS m r (.slice (some ⟨b,if cap=1 then off else off+1*3,none⟩) ((x::r).length-1) (cap-1)):=by
 obtain⟨a,c,h1,h2,h3,h4⟩:=h;simp only[Value.slice.injEq] at h1;obtain⟨rfl,_,rfl⟩:=h1;obtain⟨b',off',e,h5⟩:=h4.resolve_left (by simp)
 cases e;simp only[LvsV] at h5;rw[if_neg hr];have e:(x::r).length-1=r.length:=by simp
 rw[e];simp only[List.length_cons] at h2 h3;exact⟨_,_,rfl,by omega,by omega,.inr ⟨b,off+1*3,rfl,h5.2⟩⟩
def LvAll(m:Mem):List Lv→List (List Value)→Prop
 |[],[]=>True
 |l::ls,c::cs=>LvV m l c∧LvAll m ls cs
 |_,_=>False
theorem LvAll.mono{m m':Mem}(hle:Mem.le m m'):∀{ls:List Lv}{cs:List (List Value)},LvAll m ls cs→LvAll m' ls cs
 |[],[],_=>trivial
 |_::_,_::_,h=>⟨h.1.mono hle,LvAll.mono hle h.2⟩
 |[],_::_,h=>h.elim
 |_::_,[],h=>h.elim
theorem LvAll.snoc{m:Mem}:∀{ls:List Lv}{cs:List (List Value)}{l:Lv}{c:List Value},LvAll m ls cs→LvV m l c→LvAll m (ls++[l]) (cs++[c])
 |[],[],_,_,_,h=>⟨h,trivial⟩
 |_::_,_::_,_,_,h,h'=>⟨h.1,LvAll.snoc h.2 h'⟩
 |[],_::_,_,_,h,_=>h.elim
 |_::_,[],_,_,h,_=>h.elim
theorem LvV.len3{c:List Value}(h:LvV m l c):c.length=3:=by
 obtain⟨k,n,ls,a,cap,rfl,rfl,_⟩:=h.open;rfl
theorem LvAll.flat{m:Mem}{b:Nat}:∀{ls:List Lv}{cs:List (List Value)}{off:Nat},LvAll m ls cs→RdN m b off cs.flatten→LvsV m ls b off
 |[],[],_,_,_=>trivial
 |l::ls,c::cs,off,h,hr=>by
  have h3:=h.1.len3;refine⟨⟨c,fun j v hj=>hr j v ?_,h.1⟩,LvAll.flat h.2 fun j v hj=>?_⟩
  ·rw[List.flatten_cons,List.getElem?_append_left (List.getElem?_eq_some_iff.1 hj).1];exact hj
  ·have:=hr (3+j) v (by rw[List.flatten_cons,List.getElem?_append_right (by omega),h3];simpa using hj)
   rwa [←Nat.add_assoc] at this
 |[],_::_,_,h,_=>h.elim
 |_::_,[],_,h,_=>h.elim
theorem LvAll.made{cs:List (List Value)}{a:Option Addr}(h:LvAll m ls cs)(hr:RowAt m a cs.flatten):ls=[]∨∃b off,a=some ⟨b,off,none⟩∧LvsV m ls b off:=by
 rcases hr with hr|⟨b,rfl,hr⟩
 ·left
  match ls,cs,h with
  |[],_,_=>rfl
  |l::ls,c::cs,h=>
   have h3:=h.1.len3;rw[List.flatten_cons] at hr;simp at hr;rw[hr.1] at h3;simp at h3
 ·exact .inr ⟨b,0,rfl,h.flat hr⟩
def je9(k n:Int)(ls:List Lv)(bys:List Lv):Lv:=if k=2 then bys.getD n.toNat (.mk 0 0 []) else .mk k n ls
mutual
def j2G:Lv→List Lv→Lv
 | .mk k n ls,bys=>je9 k n (jcM ls bys) bys
def jcM:List Lv→List Lv→List Lv
 |[],_=>[]
 |l::r,bys=>j2G l bys::jcM r bys
end
def j6f(k n:Int)(s:Int)(bys:List Lv):Int:=if k=2 then j6t (bys.getD n.toNat (.mk 0 0 [])) else 1+s
mutual
def j3U:Lv→List Lv→Int
 | .mk k n ls,bys=>j6f k n (j2l ls bys) bys
def j2l:List Lv→List Lv→Int
 |[],_=>0
 |l::r,bys=>j3U l bys+j2l r bys
end
def j7s:List Lv→Bool
 |[]=>true
 |l::r=>j0y l 4&&j7s r
def InstF(l:Lv)(bys:List Lv):Option Lv:=if j0y l bys.length=true then(if j7s bys=true then(if j3U l bys≤64 then some (j2G l bys) else none) else none) else none
theorem jgf(l:Lv):1≤j6t l∧j6t l≤65:=by
 have h:1≤j0G l:=by cases l;simp[j0G]
 rw[j8r];omega
mutual
theorem jfW:∀(l:Lv) (bys:List Lv),1≤j3U l bys∧j3U l bys≤65*j0G l
 | .mk k n ls,bys=>by
  have h:=j3A ls bys;have h2:=jgf (bys.getD n.toNat (.mk 0 0 []));have e:j3U (.mk k n ls) bys=j6f k n (j2l ls bys) bys:=by simp[j3U]
  have e2:j0G (.mk k n ls)=j09 ls+1:=by simp[j0G]
  rw[e,e2];unfold j6f;split<;>omega
theorem j3A:∀(ls:List Lv) (bys:List Lv),0≤j2l ls bys∧j2l ls bys≤65*j09 ls
 |[],bys=>by simp[j2l,j09]
 |l::r,bys=>by
  have h1:=jfW l bys;have h2:=j3A r bys;have e:j2l (l::r) bys=j3U l bys+j2l r bys:=by simp[j2l]
  have e2:j09 (l::r)=j0G l+j09 r:=by simp[j09]
  rw[e,e2];omega
end
theorem j7E(ls:List Lv)(i:Nat):j09 (ls.take i)≤j09 ls:=by
 induction ls generalizing i with
 |nil=>simp[j09]
 |cons x r ih=>
  cases i with
  |zero=>simp[j09]
  |succ i=>simp only[List.take_succ_cons,j09];have:=ih i;omega
mutual
def lnF:Lv→Int→Int
 | .mk _ _ ls,q=>min (lnFs ls 1 q) (q+1)
def lnFs:List Lv→Int→Int→Int
 |[],acc,_=>acc
 |l::r,acc,q=>if acc≤q then lnFs r (acc+lnF l q) q else acc
end
mutual
theorem jg8:∀(l:Lv) (q:Int),0≤q→lnF l q=min (j0G l:Int) (q+1)
 | .mk k n ls,q,h=>by
  have h1:=jb7 ls 1 q h (by omega)
  have e:lnF (.mk k n ls) q=min (lnFs ls 1 q) (q+1):=by simp[lnF]
  have e2:j0G (.mk k n ls)=j09 ls+1:=by simp[j0G]
  rw[e,e2];omega
theorem jb7:∀(ls:List Lv) (acc q:Int),0≤q→1≤acc→min (lnFs ls acc q) (q+1)=min (acc+j09 ls) (q+1)
 |[],acc,q,h,ha=>by simp[lnFs,j09]
 |l::r,acc,q,h,ha=>by
  have h1:=jg8 l q h;have hp:1≤j0G l:=by cases l;simp[j0G]
  have e2:j09 (l::r)=j0G l+j09 r:=by simp[j09]
  rw[e2]
  by_cases hq:acc≤q
  ·have e:lnFs (l::r) acc q=lnFs r (acc+lnF l q) q:=by simp[lnFs,hq]
   have h2:=jb7 r (acc+lnF l q) q h (by omega)
   rw[e,h2];omega
  ·have e:lnFs (l::r) acc q=acc:=by simp[lnFs,hq]
   rw[e];omega
end
mutual
def jsA:Lv→Lv→Bool
 | .mk k n ls,.mk k' n' ls'=>decide (k=k')&&(decide (n=n')&&(decide (ls.length=ls'.length)&&j1Y ls ls'))
def j1Y:List Lv→List Lv→Bool
 |[],_=>true
 |_::_,[]=>true
 |l::r,l'::r'=>jsA l l'&&j1Y r r'
end
mutual
theorem jlw:∀l:Lv,jsA l l=true
 | .mk k n ls=>by simp[jsA,jbx ls]
theorem jbx:∀ls:List Lv,j1Y ls ls=true
 |[]=>by simp[j1Y]
 |l::r=>by simp[j1Y,jlw l,jbx r]
end
def pts(i:Nat):Int:=[0,1,1000].getD i 0
def pt(i j k m:Nat):List Int:=[pts i,pts j,pts k,pts m]
def leAt(a b:Lv)(i j k m:Nat):Bool:=decide (valF a (jiK (pt i j k m))≤valF b (jiK (pt i j k m)))
def all3(g:Nat)(p:Nat→Bool):Bool:=match g with
 |0=>true
 |g+1=>all3 g p&&p g
def leqR(a b:Lv):Bool:=j0y a 4&&(j0y b 4&&all3 3 fun i=>all3 3 fun j=>all3 3 fun k=>all3 3 fun m=>leAt a b i j k m)
end Go.Gw

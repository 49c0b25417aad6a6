/- Rows of the run's own: out of a block that was written out; looked at in the middle of a run. Plain lemmas. -/
import Derived.Test.YtbnodhcijeaceaaGreatDoorZBs
import Derived.Lib.Strings
set_option linter.all false
namespace Go.Gw
open Go
section
variable{E:Entry}{P:Program}{n:Nat}{K:Exit→St→Prop}{ρ:Env}{m:Mem}{μ:Own}{D:List Deferred}{ops:Array Oper}{rest:List Oper}
 {d:Nat}{ty:TypeId}{pos:String}{after:Array Edge}
variable{dst:Option Nat}{gd:Option (Nat×Bool)}{T T':TypeId}{x y z:Operand}{i j:Int}
end
open Go
abbrev str(l:List UInt8):Value:=.string ⟨l.toArray⟩
theorem j9Y(s:ByteArray):Value.string s=str s.data.toList:=by cases s;simp
theorem j7R(l:List UInt8):(⟨l.toArray⟩:ByteArray).toList=l:=by rw[Lib.toList_data]
theorem j2K(l:List UInt8):(⟨l.toArray⟩:ByteArray).size=l.length:=by simp[ByteArray.size]
theorem jmp(a b:List UInt8):(⟨a.toArray⟩:ByteArray)++(⟨b.toArray⟩:ByteArray)=⟨(a++b).toArray⟩:=by
 apply ByteArray.ext;simp
theorem j6M(l:List UInt8)(i j:Nat):(⟨l.toArray⟩:ByteArray).extract i j=⟨((l.drop i).take (j-i)).toArray⟩:=by
 apply ByteArray.ext;simp[List.extract_eq_take_drop]
section
variable{E:Entry}{P:Program}{n:Nat}{ρ:Env}{m:Mem}{μ:Own}{ty:TypeId}{pos:String}{after:Array Edge}
variable{dst:Option Nat}{gd:Option (Nat×Bool)}{T T':TypeId}{x y z:Operand}{i j:Int}{a b:List UInt8}
end
open Go
inductive Lv where
 |mk (k n:Int) (ls:List Lv)
mutual
theorem Lv.ind{P:Lv→Prop}(h:∀k n ls,(∀l∈ls,P l)→P (.mk k n ls)):∀l,P l
 | .mk k n ls=>h k n ls (Lv.inds h ls)
theorem Lv.inds{P:Lv→Prop}(h:∀k n ls,(∀l∈ls,P l)→P (.mk k n ls)):∀ls:List Lv,∀l∈ls,P l
 |[],_,hl=>by cases hl
 |x::r,l,hl=>by
  rcases List.mem_cons.1 hl with e|e
  ·rw[e];exact Lv.ind h x
  ·exact Lv.inds h r l e
end
mutual
def LvV(m:Mem):Lv→List Value→Prop
 | .mk k n ls,cs=>i64 k∧i64 n∧∃a cap,cs=[.int .i64 k,.int .i64 n,.slice a ls.length cap]∧(ls.length≤cap∧ls.length≤3518437208780)∧(ls=[]∨∃b off,a=some ⟨b,off,none⟩∧LvsV m ls b off)
def LvsV(m:Mem):List Lv→Nat→Nat→Prop
 |[],_,_=>True
 |l::r,b,off=>(∃cs,RdN m b off cs∧LvV m l cs)∧LvsV m r b (off+3)
end
mutual
theorem LvV.mono{m m':Mem}(hle:Mem.le m m'):∀{l:Lv}{cs:List Value},LvV m l cs→LvV m' l cs
 | .mk k n ls,cs,h=>by
  simp only[LvV] at h⊢;obtain⟨h1,h2,a,cap,h3,h4,h5⟩:=h;refine⟨h1,h2,a,cap,h3,h4,?_⟩;rcases h5 with h5|⟨b,off,h6,h7⟩
  ·exact .inl h5
  ·exact .inr ⟨b,off,h6,LvsV.mono hle h7⟩
theorem LvsV.mono{m m':Mem}(hle:Mem.le m m'):∀{ls:List Lv}{b off:Nat},LvsV m ls b off→LvsV m' ls b off
 |[],_,_,_=>trivial
 |l::r,b,off,h=>by
  simp only[LvsV] at h⊢;obtain⟨⟨cs,h1,h2⟩,h3⟩:=h;exact⟨⟨cs,h1.mono hle,LvV.mono hle h2⟩,LvsV.mono hle h3⟩
end
theorem LvsV.at{m:Mem}:∀{ls:List Lv}{b off i:Nat}{l:Lv},LvsV m ls b off→ls[i]?=some l→∃cs,RdN m b (off+i*3) cs∧LvV m l cs
 |[],_,_,_,_,_,h=>by simp at h
 |x::r,b,off,0,l,h,e=>by
  simp_all[List.getElem?_cons_zero,Option.some.injEq,LvsV]
 |x::r,b,off,i+1,l,h,e=>by
  simp only[List.getElem?_cons_succ] at e;simp only[LvsV] at h;have:=LvsV.at h.2 e
  grind
mutual
def j1M:Lv→Int→Int
 | .mk _ _ ls,left=>j0z ls (left-1)
def j0z:List Lv→Int→Int
 |[],left=>left
 |l::r,left=>if left<0 then left else j0z r (j1M l left)
end
mutual
theorem j5Y:∀(l:Lv) (left:Int),0≤left→-1≤j1M l left∧j1M l left≤left
 | .mk _ _ ls,left,h=>by
  simp only[j1M];have:=j4x ls (left-1) (by omega)
  omega
theorem j4x:∀(ls:List Lv) (left:Int),-1≤left→-1≤j0z ls left∧j0z ls left≤left
 |[],left,h=>by simp only[j0z];omega
 |l::r,left,h=>by
  simp only[j0z];split
  ·omega
  ·have h1:=j5Y l left (by omega)
   have h2:=j4x r (j1M l left) (by omega)
   omega
end
theorem j3O(ls:List Lv)(left:Int)(h:left<0):j0z ls left=left:=by
 cases ls<;>simp[j0z,h]
variable{k n p z:Int}{ls:List Lv}{cs:List Value}{l x:Lv}{m m':Mem}{bound i q sz:Nat}{α:Type}{sv:Value}
theorem take_snoc'{l:List α}{x:α}(h:l[i]?=some x):l.take (i+1)=l.take i++[x]:=by
 obtain⟨h1,h2⟩:=List.getElem?_eq_some_iff.1 h;rw[List.take_succ_eq_append_getElem h1,h2]
theorem drop_at{l:List α}{x:α}(h:l[i]?=some x):l.drop i=x::l.drop (i+1):=by
 obtain⟨h1,h2⟩:=List.getElem?_eq_some_iff.1 h;rw[List.drop_eq_getElem_cons h1,h2]
def Lv.kind:Lv→Int | .mk k _ _=>k
def Lv.num:Lv→Int | .mk _ n _=>n
def Lv.args:Lv→List Lv | .mk _ _ ls=>ls
def jh5(k:Int):Int:=if k=1∨k=2 then 0 else if k=3 then 1 else if k=4∨k=5 then 2 else -1
def j6r(l:Lv):Int:=64-max (j1M l 64) (-1)
def ja4:Lv→Int→Bool
 | .mk k n ls,p=>if(ls.length:Int)=jh5 k then(if k=1 then decide (0≤n∧n≤100) else if k=2 then decide (0≤n∧n<p) else decide (n=0)) else false
mutual
def allF:Lv→Int→Bool
 | .mk k n ls,p=>ja4 (.mk k n ls) p&&j4p ls p
def j4p:List Lv→Int→Bool
 |[],_=>true
 |l::r,p=>allF l p&&j4p r p
end
def j0x(l:Lv)(p:Int):Bool:=decide (0≤p)&&(decide (p≤4)&&(decide (j6r l≤64)&&allF l p))
theorem jjv(a b:Int):(if a<b then b else a)=max a b:=by
 omega
theorem LvV.open(h:LvV m l cs):∃k n ls a cap,l=.mk k n ls∧cs=[.int .i64 k,.int .i64 n,.slice a ls.length cap]∧i64 k∧i64 n∧ls.length≤3518437208780 ∧
  (∀i x,ls[i]?=some x→∃b off k1 n1 l1 a1 cap1,a=some ⟨b,off,none⟩∧x=.mk k1 n1 l1∧RdN m b (off+i*3) [.int .i64 k1,.int .i64 n1,.slice a1 l1.length cap1]∧LvV m x [.int .i64 k1,.int .i64 n1,.slice a1 l1.length cap1]):=by
 obtain⟨k,n,ls⟩:=l;have h0:=h;simp only[LvV] at h;obtain⟨h1,h2,a,cap,rfl,h4,h5⟩:=h;refine⟨k,n,ls,a,cap,rfl,rfl,h1,h2,h4.2,fun i x hx=>?_⟩
 obtain⟨b,off,rfl,hb⟩:=h5.resolve_left (fun e=>by grind)
 obtain⟨cc,hrd,hlv⟩:=LvsV.at hb hx;obtain⟨k1,n1,l1⟩:=x
 grind [LvV]
def jsT(k n:Int)(vs:List Int)(f:Int→Int):Int:=
 if k=1 then n else if k=2 then f n else if k=3 then vs.getD 0 0+1 else if k=5∧vs.getD 1 0=0 then 0 else max (vs.getD 0 0) (vs.getD 1 0)
mutual
def valF:Lv→(Int→Int)→Int
 | .mk k n ls,f=>jsT k n (jtT ls f) f
def jtT:List Lv→(Int→Int)→List Int
 |[],_=>[]
 |l::r,f=>valF l f::jtT r f
end
mutual
def j0M:Lv→Nat
 | .mk _ _ ls=>j0c ls+1
def j0c:List Lv→Nat
 |[]=>0
 |l::r=>j0M l+j0c r
end
theorem jgN:∀{ls:List Lv}{i:Nat}{x:Lv},ls[i]?=some x→j0M x≤j0c ls
 |[],_,_,h=>by simp at h
 |l::r,0,x,h=>by simp_all[j0c]
 |l::r,i+1,x,h=>by
  have:=jgN (ls:=r) (i:=i) (x:=x) (by simpa using h)
  grind [j0c]
theorem jeV(h:j0M (.mk k n ls)≤q)(hx:ls[i]?=some x):j0M x≤q:=by
 have:=jgN hx
 grind [j0M]
theorem j5a:∀{ls:List Lv}{i:Nat}{x:Lv}{p:Int},j4p ls p=true→ls[i]?=some x→allF x p=true
 |[],_,_,_,_,h=>by simp at h
 |l::r,0,x,p,h,e=>by simp_all[j4p,Bool.and_eq_true]
 |l::r,i+1,x,p,h,e=>by
  simp only[j4p,Bool.and_eq_true] at h;exact j5a h.2 (by simpa using e)
theorem j8R(h:allF (.mk k n ls) p=true)(hx:ls[i]?=some x):allF x p=true:=by
 simp only[allF,Bool.and_eq_true] at h;exact j5a h.2 hx
theorem ja7(h:allF (.mk k n ls) p=true):ja4 (.mk k n ls) p=true:=by
 simp_all[allF,Bool.and_eq_true]
theorem j6S(h:ja4 (.mk k n ls) p=true):
  (k=1∧ls=[]∧0≤n∧n≤100)∨(k=2∧ls=[]∧0≤n∧n<p)∨(k=3∧n=0∧∃x,ls=[x])∨((k=4∨k=5)∧n=0∧∃x y,ls=[x,y]):=by
 simp only[ja4] at h;split at h
 ·rename_i hw;unfold jh5 at hw
  by_cases h1:k=1
  ·simp_all
  ·by_cases h2:k=2
   ·simp_all
   ·rw[if_neg (by omega)] at hw
    simp only[h1,h2,if_false,decide_eq_true_eq] at h
    by_cases h3:k=3
    ·subst h3;simp at hw;refine .inr (.inr (.inl ⟨rfl,h,?_⟩));match ls,hw with
     |[x],_=>exact⟨x,rfl⟩
     |[],hw=>simp at hw
     |_::_::_,hw=>simp at hw;omega
    ·rw[if_neg h3] at hw
     by_cases h4:k=4∨k=5
     ·rw[if_pos h4] at hw;refine .inr (.inr (.inr ⟨h4,h,?_⟩));match ls,hw with
      |[x,y],_=>exact⟨x,y,rfl⟩
      |[],hw=>simp at hw
      |[_],hw=>simp at hw
      |_::_::_::_,hw=>simp at hw;omega
     omega
 ·cases h
theorem jmk(h:allF (.mk k n ls) p=true)(hk:k=2):0≤n∧n<p:=by
 rcases j6S (ja7 h) with⟨h1,_⟩|⟨_,_,h2⟩|⟨h1,_⟩|⟨h1,_⟩<;>omega
theorem jpl(h:allF (.mk k n ls) p=true)(hk:k=3):∃x,ls=[x]:=by
 rcases j6S (ja7 h) with⟨h1,_⟩|⟨h1,_⟩|⟨_,_,h2⟩|⟨h1,_⟩
 ·omega
 ·omega
 ·exact h2
 ·omega
theorem jrV(h:allF (.mk k n ls) p=true)(h1:k≠1)(h2:k≠2)(h3:k≠3):∃x y,ls=[x,y]:=by
 rcases j6S (ja7 h) with⟨e,_⟩|⟨e,_⟩|⟨e,_⟩|⟨_,_,e⟩
 ·omega
 ·omega
 ·omega
 ·exact e
def IntsV(m:Mem)(vs:List Int)(sv:Value):Prop:=∃a cap,sv=.slice a vs.length cap∧vs.length≤cap∧vs.length≤140737488355328∧∀i v,vs[i]?=some v→∃b off,a=some ⟨b,off,none⟩∧Rd m b (off+i*1) (.int .i64 v)
theorem IntsV.mono{vs:List Int}(h:IntsV m vs sv)(hle:Mem.le m m'):IntsV m' vs sv:=by
 obtain⟨a,cap,h1,h2,h3,h4⟩:=h;exact⟨a,cap,h1,h2,h3,fun i v hv=>by obtain⟨b,off,h5,h6⟩:=h4 i v hv;exact⟨b,off,h5,h6.mono hle⟩⟩
def jiR(vs:List Int)(i:Int):Int:=match vs[i.toNat]? with
 |some v=>min (max v 0) 1048576
 |none=>0
def ju4(vs:List Int)(g i:Nat):Int:=if i<g then jiR vs i else 0
def juw(l:Lv)(vs:List Int):Int:=if j0x l 4=true then valF l (jiR vs) else 0
mutual
theorem jfH:∀(l:Lv) (left:Int),0≤left→((j0M l:Int)≤left→j1M l left=left-j0M l)∧(left<(j0M l:Int)→j1M l left = -1)
 | .mk k n ls,left,h=>by
  have e:j0M (.mk k n ls)=j0c ls+1:=by simp[j0M]
  have h1:=j8Y ls (left-1) (by omega)
  grind [j1M,j0c,j0z]
theorem j8Y:∀(ls:List Lv) (left:Int),-1≤left→((j0c ls:Int)≤left→j0z ls left=left-j0c ls)∧(left<(j0c ls:Int)→ls≠[]→j0z ls left = -1)
 |[],left,h=>by simp[j0z,j0c]
 |l::r,left,h=>by
  have hp:1≤j0M l:=by cases l;simp[j0M]
  have e:j0c (l::r)=j0M l+j0c r:=by simp[j0c]
  rw[e]
  by_cases h0:left<0
  ·grind [j0z]
  ·have e2:j0z (l::r) left=j0z r (j1M l left):=by simp[j0z,h0]
   have h1:=jfH l left (by omega)
   rw[e2]
   by_cases h3:(j0M l:Int)≤left
   ·rw[h1.1 h3];have h4:=j8Y r (left-j0M l) (by omega)
    grind [j0c]
   ·rw[h1.2 (by omega),j3O _ _ (by omega)]
    omega
end
theorem j8u(l:Lv):j6r l=min (j0M l:Int) 65:=by
 unfold j6r;have h:=jfH l 64 (by omega)
 omega
theorem jbG(h:j0x l p=true):allF l p=true:=by
 simp_all[j0x,Bool.and_eq_true]
theorem jib(h:j0x l p=true):j0M l≤64:=by
 simp only[j0x,Bool.and_eq_true,decide_eq_true_eq,j8u] at h;omega
theorem j9t(h:j0x l p=true):j0M l≤100000:=by
 have:=jib h;omega
structure Fm where
 num:Int
 off:Nat→Int
def Fm.cells(f:Fm):List Value:=[.int .i64 f.num,.int .i64 (f.off 0),.int .i64 (f.off 1),.int .i64 (f.off 2),.int .i64 (f.off 3)]
def Fm.v(f:Fm):Value:=.agg #[.int .i64 f.num,.int .i64 (f.off 0),.int .i64 (f.off 1),.int .i64 (f.off 2),.int .i64 (f.off 3)]
def Fm.ok(f:Fm)(q:Int):Prop:=(-1≤f.num∧f.num≤q)∧∀j,-1≤f.off j∧f.off j≤q
def juC(g:Nat)(F G:Nat→Int)(j:Nat):Int:=if j<g then G j else F j
def j2c(n:Int):Fm:=⟨n,fun _=>-1⟩
def rise(x:Int):Int:=if x = -1 then -1 else x+1
def jbF(f:Fm):Fm:=⟨rise f.num,fun j=>rise (f.off j)⟩
def jco(f g:Fm):Fm:=⟨max f.num g.num,fun j=>max (f.off j) (g.off j)⟩
def jbc(f:Fm):Nat→Int
 |0=>f.num
 |g+1=>if f.off g = -1 then jbc f g else max (jbc f g) (f.off g+1)
def jnR(f:Fm):Int:=jbc f 4
def j8v(f g:Fm):Nat→Bool
 |0=>true
 |i+1=>j8v f g i&&decide (f.off i≤g.off i)
def jcD(f g:Fm):Bool:=j8v f g 4&&decide (f.num≤jnR g)
def jt0(f:Fm):Bool:=decide (f.num=0)&&(decide (f.off 0 = -1)&&(decide (f.off 1 = -1)&&(decide (f.off 2 = -1)&&decide (f.off 3 = -1))))
def bit(z n:Int):Int:=z/2^n.toNat%2
def j8w(z n:Int):Fm:=if bit z n=0 then⟨-1,fun j=>if(j:Int)=n then 0 else -1⟩ else j2c 0
def j5r(k n:Int)(fs:List Fm)(z:Int):Fm:=
 if k=1 then j2c n else if k=2 then j8w z n else if k=3 then jbF (fs.getD 0 (j2c 0)) else if k=5∧jt0 (fs.getD 1 (j2c 0))=true then fs.getD 1 (j2c 0) else jco (fs.getD 0 (j2c 0)) (fs.getD 1 (j2c 0))
mutual
def j2z:Lv→Int→Fm
 | .mk k n ls,z=>j5r k n (jj6 ls z) z
def jj6:List Lv→Int→List Fm
 |[],_=>[]
 |l::r,z=>j2z l z::jj6 r z
end
theorem jg4:j2z (.mk 3 n [x]) z=jbF (j2z x z):=by simp[j2z,jj6,j5r]
theorem j8e{y:Lv}(h1:¬k=1)(h2:¬k=2)(h3:¬k=3):j2z (.mk k n [x,y]) z=if k=5∧jt0 (j2z y z)=true then j2z y z else jco (j2z x z) (j2z y z):=by simp[j2z,jj6,j5r,h1,h2,h3]
theorem jj5(l:Lv):∀z:Int,allF l 4=true→(j2z l z).ok (100+j0M l):=by
 induction l using Lv.ind with
 |_ k n ls ih=>
  intro z hall;rcases j6S (ja7 hall) with⟨rfl,rfl,h1⟩|⟨rfl,rfl,h1⟩|⟨rfl,rfl,x,rfl⟩|⟨hk,rfl,x,y,rfl⟩
  ·simp[j2z,j5r,j2c,Fm.ok];omega
  ·have e:j2z (.mk 2 n []) z=j8w z n:=by simp[j2z,j5r]
   rw[e];unfold j8w
   ·split
    ·refine⟨by simp;omega,fun j=>?_⟩
     grind
    ·exact⟨by simp[j2c];omega,fun j=>by simp[j2c];omega⟩
  ·have h:=ih x (by simp) z (j8R hall (i:=0) rfl)
   rw[jg4];have hs:j0M (.mk 3 0 [x])=j0M x+1:=by simp[j0M,j0c]
   rw[hs];refine⟨?_,fun j=>?_⟩
   ·have:=h.1
    grind [jbF,rise]
   ·have:=h.2 j
    grind [jbF,rise]
  ·have hx:=ih x (by simp) z (j8R hall (i:=0) rfl)
   have hy:=ih y (by simp) z (j8R hall (i:=1) rfl)
   rw[j8e (by omega) (by omega) (by omega)]
   have hs:j0M (.mk k 0 [x,y])=j0M x+j0M y+1:=by simp[j0M,j0c]
   rw[hs];split
   ·exact⟨by have:=hy.1;omega,fun j=>by have:=hy.2 j;omega⟩
   ·refine⟨by have:=hx.1;have:=hy.1;grind [jco],fun j=>by have:=hx.2 j;have:=hy.2 j;grind [jco]⟩
def jhS(a b:Lv):Nat→Bool
 |0=>true
 |z+1=>jhS a b z&&jcD (j2z a z) (j2z b z)
def leqF(a b:Lv):Bool:=j0x a 4&&(j0x b 4&&jhS a b 16)
theorem jhT{a b:Lv}(hi:i<16)(h:jcD (j2z a i) (j2z b i)=false):jhS a b 16=false:=by
 have key:∀g,i<g→jhS a b g=false:=by
  intro g
  induction g with
  |zero=>intro h';omega
  |succ g ih=>
   grind [jhS]
 exact key 16 hi
theorem jtJ(h:0≤z):0≤z/2^q:=Int.ediv_nonneg h (Int.le_of_lt (Int.pow_pos (by omega)))
theorem jtK(h:0≤z)(h1:z<16):z/2^q<64:=by
 have h2:z/2^q≤z:=Int.ediv_le_self _ h;omega
theorem jtm{f:Fm}(h:f.ok (100+q))(hq:q≤100000):f.ok 1000000:=⟨by have:=h.1;omega,fun j=>by have:=h.2 j;omega⟩
def LvsS(m:Mem)(ls:List Lv)(sv:Value):Prop:=∃a cap,sv=.slice a ls.length cap∧ls.length≤cap∧ls.length≤3518437208780∧(ls=[]∨∃b off,a=some ⟨b,off,none⟩∧LvsV m ls b off)
theorem LvsS.mono(h:LvsS m ls sv)(hle:Mem.le m m'):LvsS m' ls sv:=by
 obtain⟨a,cap,h1,h2,h3,h4⟩:=h;refine⟨a,cap,h1,h2,h3,?_⟩;rcases h4 with h4|⟨b,off,h5,h6⟩
 ·exact .inl h4
 ·exact .inr ⟨b,off,h5,LvsV.mono hle h6⟩
theorem LvsS.open(h:LvsS m ls sv):∃a cap,sv=.slice a ls.length cap∧ls.length≤cap∧ls.length≤3518437208780 ∧
  (∀i x,ls[i]?=some x→∃b off k1 n1 l1 a1 cap1,a=some ⟨b,off,none⟩∧x=.mk k1 n1 l1∧RdN m b (off+i*3) [.int .i64 k1,.int .i64 n1,.slice a1 l1.length cap1]∧LvV m x [.int .i64 k1,.int .i64 n1,.slice a1 l1.length cap1]):=by
 obtain⟨a,cap,h1,h2,h3,h5⟩:=h;refine⟨a,cap,h1,h2,h3,fun i x hx=>?_⟩
 obtain⟨b,off,rfl,hb⟩:=h5.resolve_left (fun e=>by grind)
 obtain⟨cc,hrd,hlv⟩:=LvsV.at hb hx;obtain⟨k1,n1,l1⟩:=x
 grind [LvV]
theorem LvsS.tail{r:List Lv}{b off cap:Nat}(h:LvsS m (x::r) (.slice (some ⟨b,off,none⟩) (x::r).length cap))(hr:cap≠1):LvsS m r (.slice (some ⟨b,if cap=1 then off else off+1*3,none⟩) ((x::r).length-1) (cap-1)):=by
 obtain⟨a,c,h1,h2,h3,h4⟩:=h;simp only[Value.slice.injEq] at h1;obtain⟨rfl,_,rfl⟩:=h1;obtain⟨b',off',e,h5⟩:=h4.resolve_left (by simp)
 cases e;simp only[LvsV] at h5;rw[if_neg hr];have e:(x::r).length-1=r.length:=by simp
 rw[e];simp only[List.length_cons] at h2 h3;exact⟨_,_,rfl,by omega,by omega,.inr ⟨b,off+1*3,rfl,h5.2⟩⟩
def LvAll(m:Mem):List Lv→List (List Value)→Prop
 |[],[]=>True
 |l::ls,c::cs=>LvV m l c∧LvAll m ls cs
 |_,_=>False
theorem LvAll.mono{m m':Mem}(hle:Mem.le m m'):∀{ls:List Lv}{cs:List (List Value)},LvAll m ls cs→LvAll m' ls cs
 |[],[],_=>trivial
 |_::_,_::_,h=>⟨h.1.mono hle,LvAll.mono hle h.2⟩
 |[],_::_,h=>h.elim
 |_::_,[],h=>h.elim
theorem LvAll.snoc{m:Mem}:∀{ls:List Lv}{cs:List (List Value)}{l:Lv}{c:List Value},LvAll m ls cs→LvV m l c→LvAll m (ls++[l]) (cs++[c])
 |[],[],_,_,_,h=>⟨h,trivial⟩
 |_::_,_::_,_,_,h,h'=>⟨h.1,LvAll.snoc h.2 h'⟩
 |[],_::_,_,_,h,_=>h.elim
 |_::_,[],_,_,h,_=>h.elim
theorem LvV.len3{c:List Value}(h:LvV m l c):c.length=3:=by
 obtain⟨k,n,ls,a,cap,rfl,rfl,_⟩:=h.open;rfl
theorem LvAll.flat{m:Mem}{b:Nat}:∀{ls:List Lv}{cs:List (List Value)}{off:Nat},LvAll m ls cs→RdN m b off cs.flatten→LvsV m ls b off
 |[],[],_,_,_=>trivial
 |l::ls,c::cs,off,h,hr=>by
  have h3:=h.1.len3;refine⟨⟨c,fun j v hj=>hr j v ?_,h.1⟩,LvAll.flat h.2 fun j v hj=>?_⟩
  ·grind
  ·have:=hr (3+j) v (by grind)
   grind
 |[],_::_,_,h,_=>h.elim
 |_::_,[],_,h,_=>h.elim
theorem LvAll.made{cs:List (List Value)}{a:Option Addr}(h:LvAll m ls cs)(hr:RowAt m a cs.flatten):ls=[]∨∃b off,a=some ⟨b,off,none⟩∧LvsV m ls b off:=by
 rcases hr with hr|⟨b,rfl,hr⟩
 ·left
  match ls,cs,h with
  |[],_,_=>rfl
  |l::ls,c::cs,h=>
   have h3:=h.1.len3
   simp_all
 ·exact .inr ⟨b,0,rfl,h.flat hr⟩
def jek(k n:Int)(ls:List Lv)(bys:List Lv):Lv:=if k=2 then bys.getD n.toNat (.mk 0 0 []) else .mk k n ls
mutual
def j2F:Lv→List Lv→Lv
 | .mk k n ls,bys=>jek k n (jcX ls bys) bys
def jcX:List Lv→List Lv→List Lv
 |[],_=>[]
 |l::r,bys=>j2F l bys::jcX r bys
end
def j8f(k n:Int)(s:Int)(bys:List Lv):Int:=if k=2 then j6r (bys.getD n.toNat (.mk 0 0 [])) else 1+s
mutual
def j4E:Lv→List Lv→Int
 | .mk k n ls,bys=>j8f k n (j3s ls bys) bys
def j3s:List Lv→List Lv→Int
 |[],_=>0
 |l::r,bys=>j4E l bys+j3s r bys
end
def j7s:List Lv→Bool
 |[]=>true
 |l::r=>j0x l 4&&j7s r
def InstF(l:Lv)(bys:List Lv):Option Lv:=if j0x l bys.length=true then(if j7s bys=true then(if j4E l bys≤64 then some (j2F l bys) else none) else none) else none
theorem jgq(l:Lv):1≤j6r l∧j6r l≤65:=by
 have h:1≤j0M l:=by cases l;simp[j0M]
 rw[j8u];omega
mutual
theorem jg9:∀(l:Lv) (bys:List Lv),1≤j4E l bys∧j4E l bys≤65*j0M l
 | .mk k n ls,bys=>by
  have h:=j3B ls bys;have h2:=jgq (bys.getD n.toNat (.mk 0 0 []))
  grind [j4E,j0M,j8f]
theorem j3B:∀(ls:List Lv) (bys:List Lv),0≤j3s ls bys∧j3s ls bys≤65*j0c ls
 |[],bys=>by simp[j3s,j0c]
 |l::r,bys=>by
  have h1:=jg9 l bys;have h2:=j3B r bys
  grind [j3s,j0c]
end
theorem j7F(ls:List Lv)(i:Nat):j0c (ls.take i)≤j0c ls:=by
 induction ls generalizing i with
 |nil=>simp[j0c]
 |cons x r ih=>
  cases i with
  |zero=>simp[j0c]
  |succ i=>simp_all[List.take_succ_cons,j0c]
mutual
def lnF:Lv→Int→Int
 | .mk _ _ ls,q=>min (lnFs ls 1 q) (q+1)
def lnFs:List Lv→Int→Int→Int
 |[],acc,_=>acc
 |l::r,acc,q=>if acc≤q then lnFs r (acc+lnF l q) q else acc
end
mutual
theorem jgj:∀(l:Lv) (q:Int),0≤q→lnF l q=min (j0M l:Int) (q+1)
 | .mk k n ls,q,h=>by
  have h1:=jbg ls 1 q h (by omega)
  grind [lnF,j0M]
theorem jbg:∀(ls:List Lv) (acc q:Int),0≤q→1≤acc→min (lnFs ls acc q) (q+1)=min (acc+j0c ls) (q+1)
 |[],acc,q,h,ha=>by simp[lnFs,j0c]
 |l::r,acc,q,h,ha=>by
  have h1:=jgj l q h;have hp:1≤j0M l:=by cases l;simp[j0M]
  have e2:j0c (l::r)=j0M l+j0c r:=by simp[j0c]
  rw[e2]
  by_cases hq:acc≤q
  ·have e:lnFs (l::r) acc q=lnFs r (acc+lnF l q) q:=by simp[lnFs,hq]
   have h2:=jbg r (acc+lnF l q) q h (by omega)
   rw[e,h2];omega
  grind [lnFs]
end
mutual
def jsN:Lv→Lv→Bool
 | .mk k n ls,.mk k' n' ls'=>decide (k=k')&&(decide (n=n')&&(decide (ls.length=ls'.length)&&j1Z ls ls'))
def j1Z:List Lv→List Lv→Bool
 |[],_=>true
 |_::_,[]=>true
 |l::r,l'::r'=>jsN l l'&&j1Z r r'
end
mutual
theorem jlF:∀l:Lv,jsN l l=true
 | .mk k n ls=>by simp[jsN,jbI ls]
theorem jbI:∀ls:List Lv,j1Z ls ls=true
 |[]=>by simp[j1Z]
 |l::r=>by simp[j1Z,jlF l,jbI r]
end
def pts(i:Nat):Int:=[0,1,1000].getD i 0
def pt(i j k m:Nat):List Int:=[pts i,pts j,pts k,pts m]
def leAt(a b:Lv)(i j k m:Nat):Bool:=decide (valF a (jiR (pt i j k m))≤valF b (jiR (pt i j k m)))
def all3(g:Nat)(p:Nat→Bool):Bool:=match g with
 |0=>true
 |g+1=>all3 g p&&p g
def leqR(a b:Lv):Bool:=j0x a 4&&(j0x b 4&&all3 3 fun i=>all3 3 fun j=>all3 3 fun k=>all3 3 fun m=>leAt a b i j k m)
open Go
def SlV{α:Type}(V:Mem→α→List Value→Prop)(sz bound:Nat)(m:Mem)(xs:List α)(sv:Value):Prop:=
 ∃a cap,sv=.slice a xs.length cap∧xs.length≤cap∧xs.length≤bound∧∀i x,xs[i]?=some x→∃b off cs,a=some ⟨b,off,none⟩∧RdN m b (off+i*sz) cs∧V m x cs
theorem SlV.mono{V:Mem→α→List Value→Prop}{xs:List α}(h:SlV V sz bound m xs sv)(hV:∀x cs,V m x cs→V m' x cs)(hle:Mem.le m m'):SlV V sz bound m' xs sv:=by
 obtain⟨a,cap,h1,h2,h3,h4⟩:=h;refine⟨a,cap,h1,h2,h3,fun i x hx=>?_⟩
 obtain⟨b,off,cs,h5,h6,h7⟩:=h4 i x hx;exact⟨b,off,cs,h5,h6.mono hle,hV _ _ h7⟩
theorem SlV.nil{V:Mem→α→List Value→Prop}:SlV V sz bound m [] (.slice none 0 0):=
 ⟨none,0,rfl,Nat.le_refl _,Nat.zero_le _,fun i x h=>by simp at h⟩
def AllV{α:Type}(V:Mem→α→List Value→Prop)(sz:Nat)(m:Mem):List α→List (List Value)→Prop
 |[],[]=>True
 |x::xs,c::cs=>(V m x c∧c.length=sz)∧AllV V sz m xs cs
 |_,_=>False
section
variable{α:Type}{V:Mem→α→List Value→Prop}{sz:Nat}{m m':Mem}
theorem AllV.mono(hV:∀x cs,V m x cs→V m' x cs):∀{xs:List α}{cs:List (List Value)},AllV V sz m xs cs→AllV V sz m' xs cs
 |[],[],_=>trivial
 |_::_,_::_,h=>⟨⟨hV _ _ h.1.1,h.1.2⟩,AllV.mono hV h.2⟩
 |[],_::_,h=>h.elim
 |_::_,[],h=>h.elim
theorem AllV.snoc:∀{xs:List α}{cs:List (List Value)}{x:α}{c:List Value},AllV V sz m xs cs→V m x c→c.length=sz→AllV V sz m (xs++[x]) (cs++[c])
 |[],[],_,_,_,h,h3=>⟨⟨h,h3⟩,trivial⟩
 |_::_,_::_,_,_,h,h',h3=>⟨h.1,AllV.snoc h.2 h' h3⟩
 |[],_::_,_,_,h,_,_=>h.elim
 |_::_,[],_,_,h,_,_=>h.elim
theorem AllV.length:∀{xs:List α}{cs:List (List Value)},AllV V sz m xs cs→cs.length=xs.length
 |[],[],_=>rfl
 |_::_,_::_,h=>by simp[AllV.length h.2]
 |[],_::_,h=>h.elim
 |_::_,[],h=>h.elim
theorem AllV.flatten_length:∀{xs:List α}{cs:List (List Value)},AllV V sz m xs cs→cs.flatten.length=xs.length*sz
 |[],[],_=>by simp
 |_::xs,_::_,h=>by rw[List.flatten_cons,List.length_append,AllV.flatten_length h.2,h.1.2,List.length_cons,Nat.succ_mul,Nat.add_comm]
 |[],_::_,h=>h.elim
 |_::_,[],h=>h.elim
theorem AllV.at{b:Nat}:∀{xs:List α}{cs:List (List Value)}{off i:Nat}{x:α},AllV V sz m xs cs→RdN m b off cs.flatten→xs[i]?=some x→∃c,RdN m b (off+i*sz) c∧V m x c
 |x0::xs,c0::cs,off,i,x,h,hr,hx=>by
  cases i with
  |zero=>
   simp at hx;subst hx;refine⟨c0,fun j v hj=>?_,h.1.1⟩
   have:=hr j v (by rw[List.flatten_cons,List.getElem?_append_left (List.getElem?_eq_some_iff.1 hj).1];exact hj)
   simpa using this
  |succ i=>
   have hr':RdN m b (off+sz) cs.flatten:=fun j v hj=>by
    have:=hr (sz+j) v (by rw[List.flatten_cons,List.getElem?_append_right (by have:=h.1.2;omega),h.1.2];simpa using hj)
    rwa [←Nat.add_assoc] at this
   obtain⟨c,h1,h2⟩:=AllV.at h.2 hr' (by simpa using hx)
   refine⟨c,?_,h2⟩
   rwa [show off+(i+1)*sz=off+sz+i*sz by rw[Nat.succ_mul];omega]
 |[],_,_,i,x,_,_,hx=>by simp at hx
 |_::_,[],_,_,_,h,_,_=>h.elim
theorem AllV.made{xs:List α}{cs:List (List Value)}{a:Option Addr}{cap bound:Nat}(hz:0<sz)(h:AllV V sz m xs cs)(hr:RowAt m a cs.flatten)(hc:xs.length≤cap)(hb:xs.length≤bound):SlV V sz bound m xs (.slice a xs.length cap):=by
 refine⟨a,cap,rfl,hc,hb,fun i x hx=>?_⟩
 rcases hr with hr|⟨b,rfl,hr⟩
 ·have h1:=h.flatten_length;rw[hr] at h1;have h2:=(List.getElem?_eq_some_iff.1 hx).1;have h3:0<xs.length*sz:=Nat.mul_pos (by omega) hz
  simp at h1;omega
 ·obtain⟨c,h1,h2⟩:=h.at hr hx;exact⟨b,0,c,rfl,h1,h2⟩
end
def StrV(_:Mem)(s:List UInt8)(cs:List Value):Prop:=cs=[str s]∧s.length≤140737488355328
abbrev StrsV:=SlV StrV 1 8796093022208
theorem StrsV.mono{xs:List (List UInt8)}(h:StrsV m xs sv)(hle:Mem.le m m'):StrsV m' xs sv:=SlV.mono h (fun _ _ h=>h) hle
inductive Tm where
 |mk (k n:Int) (s:List UInt8) (ls:List Lv) (ts:List Tm)
mutual
theorem Tm.ind{P:Tm→Prop}(h:∀k n s ls ts,(∀t∈ts,P t)→P (.mk k n s ls ts)):∀t,P t
 | .mk k n s ls ts=>h k n s ls ts (Tm.inds h ts)
theorem Tm.inds{P:Tm→Prop}(h:∀k n s ls ts,(∀t∈ts,P t)→P (.mk k n s ls ts)):∀ts:List Tm,∀t∈ts,P t
 |[],_,hl=>by cases hl
 |x::r,l,hl=>by
  rcases List.mem_cons.1 hl with e|e
  ·rw[e];exact Tm.ind h x
  ·exact Tm.inds h r l e
end
inductive TmV (m:Mem):Tm→List Value→Prop where
 |mk {k n:Int}{s:List UInt8}{ls:List Lv}{ts:List Tm}{la ta:Option Addr}{lcap tcap:Nat}(f:Nat→Nat×Nat×List Value) (hk:i64 k) (hn:i64 n) (hs:s.length≤140737488355328)
  (hl:LvsS m ls (.slice la ls.length lcap)) (hc:ts.length≤tcap) (hb:ts.length≤1759218604441)
  (ha:∀i x,ts[i]?=some x→ta=some ⟨(f i).1,(f i).2.1,none⟩∧RdN m (f i).1 ((f i).2.1+i*5) (f i).2.2) (ht:∀i x,ts[i]?=some x→TmV m x (f i).2.2) :
  TmV m (.mk k n s ls ts) [.int .i64 k,.int .i64 n,str s,.slice la ls.length lcap,.slice ta ts.length tcap]
abbrev TmsV:=SlV TmV 5 1759218604441
variable{t:Tm}
theorem TmV.mono(hle:Mem.le m m')(h:TmV m t cs):TmV m' t cs:=by
 induction h with
 |mk f hk hn hs hl hc hb ha ht ih=>exact .mk f hk hn hs (hl.mono hle) hc hb (fun i x hx=>⟨(ha i x hx).1,(ha i x hx).2.mono hle⟩) ih
variable{ts:List Tm}
theorem TmsV.mono(h:TmsV m ts sv)(hle:Mem.le m m'):TmsV m' ts sv:=SlV.mono h (fun _ _ h=>TmV.mono hle h) hle
theorem TmV.len(h:TmV m t cs):cs.length=5:=by cases h;rfl
theorem TmV.open(h:TmV m t cs):∃k n s ls ts la lcap ta tcap,t=.mk k n s ls ts∧cs=[.int .i64 k,.int .i64 n,str s,.slice la (List.length (α:=Lv) ls) lcap,.slice ta (List.length (α:=Tm) ts) tcap] ∧
  i64 k∧i64 n∧s.length≤140737488355328∧LvsS m ls (.slice la ls.length lcap)∧TmsV m ts (.slice ta ts.length tcap):=by
 cases h with
 |mk f hk hn hs hl hc hb ha ht=>exact⟨_,_,_,_,_,_,_,_,_,rfl,rfl,hk,hn,hs,hl,_,_,rfl,hc,hb,fun i x hx=>⟨_,_,_,(ha i x hx).1,(ha i x hx).2,ht i x hx⟩⟩
theorem TmV.of{s:List UInt8}{la ta:Option Addr}{lcap tcap:Nat}(hk:i64 k)(hn:i64 n)(hs:s.length≤140737488355328)
  (hl:LvsS m ls (.slice la ls.length lcap)) (ht:TmsV m ts (.slice ta ts.length tcap)):TmV m (.mk k n s ls ts) [.int .i64 k,.int .i64 n,str s,.slice la ls.length lcap,.slice ta ts.length tcap]:=by
 obtain⟨a,cap,h1,h2,h3,h4⟩:=ht;simp only[Value.slice.injEq,true_and] at h1;obtain⟨rfl,rfl⟩:=h1;have hf:∃f:Nat→Nat×Nat×List Value,∀i x,ts[i]?=some x→(ta=some ⟨(f i).1,(f i).2.1,none⟩∧RdN m (f i).1 ((f i).2.1+i*5) (f i).2.2)∧TmV m x (f i).2.2:=by
  refine Classical.axiomOfChoice (r:=fun i (p:Nat×Nat×List Value)=>∀x,ts[i]?=some x→(ta=some ⟨p.1,p.2.1,none⟩∧RdN m p.1 (p.2.1+i*5) p.2.2)∧TmV m x p.2.2) fun i=>?_
  cases h:ts[i]? with
  |none=>exact⟨(0,0,[]),fun x hx=>by cases hx⟩
  |some x=>
   obtain⟨b,off,cs,h5,h6,h7⟩:=h4 i x h;exact⟨(b,off,cs),fun y hy=>by cases hy;exact⟨⟨h5,h6⟩,h7⟩⟩
 obtain⟨f,hf⟩:=hf;exact .mk f hk hn hs hl h2 h3 (fun i x hx=>(hf i x hx).1) (fun i x hx=>(hf i x hx).2)
theorem TmsV.at{m:Mem}{ts:List Tm}{a:Option Addr}{len cap:Nat}(h:TmsV m ts (.slice a len cap)){i:Nat}{x:Tm}(hx:ts[i]?=some x):∃b off k n s ls us la lcap ta tcap,a=some ⟨b,off,none⟩∧x=.mk k n s ls us ∧
  RdN m b (off+i*5) [.int .i64 k,.int .i64 n,str s,.slice la (List.length (α:=Lv) ls) lcap,.slice ta (List.length (α:=Tm) us) tcap]∧TmV m x [.int .i64 k,.int .i64 n,str s,.slice la ls.length lcap,.slice ta us.length tcap]:=by
 obtain⟨a',cap',h1,h2,h3,h4⟩:=h;simp only[Value.slice.injEq] at h1;obtain⟨rfl,rfl,rfl⟩:=h1;obtain⟨b,off,cs,h5,h6,h7⟩:=h4 i x hx;have h8:=h7;obtain⟨k,n,s,ls,us,la,lcap,ta,tcap,e1,e2,-⟩:=h7.open;rw[e2] at h6 h8;exact⟨b,off,k,n,s,ls,us,la,lcap,ta,tcap,h5,e1,h6,h8⟩
end Go.Gw

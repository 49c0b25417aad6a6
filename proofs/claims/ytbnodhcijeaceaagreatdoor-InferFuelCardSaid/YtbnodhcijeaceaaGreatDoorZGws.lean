/- Rows of the run's own: out of a block that was written out; looked at in the middle of a run. Plain lemmas. -/
import Derived.Test.YtbnodhcijeaceaaGreatDoorZBs
import Derived.Lib.Strings
set_option linter.all false
namespace Go.Gw
open Go
section
variable{E:Entry}{P:Program}{n:Nat}{K:Exit→St→Prop}{ρ:Env}{m:Mem}{μ:Own}{D:List Deferred}{ops:Array Oper}{rest:List Oper}
 {d:Nat}{ty:TypeId}{pos:String}{after:Array Edge}
variable{dst:Option Nat}{gd:Option (Nat×Bool)}{T T':TypeId}{x y z:Operand}{i j:Int}
end
open Go
abbrev str(l:List UInt8):Value:=.string ⟨l.toArray⟩
theorem jdX(s:ByteArray):Value.string s=str s.data.toList:=by cases s;simp
theorem j8j(l:List UInt8):(⟨l.toArray⟩:ByteArray).toList=l:=by rw[Lib.toList_data]
theorem j2V(l:List UInt8):(⟨l.toArray⟩:ByteArray).size=l.length:=by simp[ByteArray.size]
theorem jn8(a b:List UInt8):(⟨a.toArray⟩:ByteArray)++(⟨b.toArray⟩:ByteArray)=⟨(a++b).toArray⟩:=by
 apply ByteArray.ext;simp
theorem j6U(l:List UInt8)(i j:Nat):(⟨l.toArray⟩:ByteArray).extract i j=⟨((l.drop i).take (j-i)).toArray⟩:=by
 apply ByteArray.ext;simp[List.extract_eq_take_drop]
section
variable{E:Entry}{P:Program}{n:Nat}{ρ:Env}{m:Mem}{μ:Own}{ty:TypeId}{pos:String}{after:Array Edge}
variable{dst:Option Nat}{gd:Option (Nat×Bool)}{T T':TypeId}{x y z:Operand}{i j:Int}{a b:List UInt8}
end
open Go
inductive Lv where
 |mk (k n:Int) (ls:List Lv)
mutual
theorem Lv.ind{P:Lv→Prop}(h:∀k n ls,(∀l∈ls,P l)→P (.mk k n ls)):∀l,P l
 | .mk k n ls=>h k n ls (Lv.inds h ls)
theorem Lv.inds{P:Lv→Prop}(h:∀k n ls,(∀l∈ls,P l)→P (.mk k n ls)):∀ls:List Lv,∀l∈ls,P l
 |[],_,hl=>by cases hl
 |x::r,l,hl=>by
  rcases List.mem_cons.1 hl with e|e
  ·rw[e];exact Lv.ind h x
  ·exact Lv.inds h r l e
end
mutual
def LvV(m:Mem):Lv→List Value→Prop
 | .mk k n ls,cs=>i64 k∧i64 n∧∃a cap,cs=[.int .i64 k,.int .i64 n,.slice a ls.length cap]∧(ls.length≤cap∧ls.length≤3518437208780)∧(ls=[]∨∃b off,a=some ⟨b,off,none⟩∧LvsV m ls b off)
def LvsV(m:Mem):List Lv→Nat→Nat→Prop
 |[],_,_=>True
 |l::r,b,off=>(∃cs,RdN m b off cs∧LvV m l cs)∧LvsV m r b (off+3)
end
mutual
theorem LvV.mono{m m':Mem}(hle:Mem.le m m'):∀{l:Lv}{cs:List Value},LvV m l cs→LvV m' l cs
 | .mk k n ls,cs,h=>by
  simp only[LvV] at h⊢;obtain⟨h1,h2,a,cap,h3,h4,h5⟩:=h;refine⟨h1,h2,a,cap,h3,h4,?_⟩;rcases h5 with h5|⟨b,off,h6,h7⟩
  ·exact .inl h5
  ·exact .inr ⟨b,off,h6,LvsV.mono hle h7⟩
theorem LvsV.mono{m m':Mem}(hle:Mem.le m m'):∀{ls:List Lv}{b off:Nat},LvsV m ls b off→LvsV m' ls b off
 |[],_,_,_=>trivial
 |l::r,b,off,h=>by
  simp only[LvsV] at h⊢;obtain⟨⟨cs,h1,h2⟩,h3⟩:=h;exact⟨⟨cs,h1.mono hle,LvV.mono hle h2⟩,LvsV.mono hle h3⟩
end
theorem LvsV.at{m:Mem}:∀{ls:List Lv}{b off i:Nat}{l:Lv},LvsV m ls b off→ls[i]?=some l→∃cs,RdN m b (off+i*3) cs∧LvV m l cs
 |[],_,_,_,_,_,h=>by simp at h
 |x::r,b,off,0,l,h,e=>by
  simp only[List.getElem?_cons_zero,Option.some.injEq] at e;subst e;simpa[LvsV] using h.1
 |x::r,b,off,i+1,l,h,e=>by
  simp only[List.getElem?_cons_succ] at e;simp only[LvsV] at h;have:=LvsV.at h.2 e;have he:off+3+i*3=off+(i+1)*3:=by omega
  rwa [he] at this
mutual
def j1Q:Lv→Int→Int
 | .mk _ _ ls,left=>j0F ls (left-1)
def j0F:List Lv→Int→Int
 |[],left=>left
 |l::r,left=>if left<0 then left else j0F r (j1Q l left)
end
mutual
theorem j6g:∀(l:Lv) (left:Int),0≤left→-1≤j1Q l left∧j1Q l left≤left
 | .mk _ _ ls,left,h=>by
  simp only[j1Q];have:=j4O ls (left-1) (by omega)
  omega
theorem j4O:∀(ls:List Lv) (left:Int),-1≤left→-1≤j0F ls left∧j0F ls left≤left
 |[],left,h=>by simp only[j0F];omega
 |l::r,left,h=>by
  simp only[j0F];split
  ·omega
  ·have h1:=j6g l left (by omega)
   have h2:=j4O r (j1Q l left) (by omega)
   omega
end
theorem j3Y(ls:List Lv)(left:Int)(h:left<0):j0F ls left=left:=by
 cases ls<;>simp[j0F,h]
variable{k n p z:Int}{ls:List Lv}{l x:Lv}{m m':Mem}{i q:Nat}{α:Type}{sv:Value}
theorem take_snoc'{l:List α}{x:α}(h:l[i]?=some x):l.take (i+1)=l.take i++[x]:=by
 obtain⟨h1,h2⟩:=List.getElem?_eq_some_iff.1 h;rw[List.take_succ_eq_append_getElem h1,h2]
theorem drop_at{l:List α}{x:α}(h:l[i]?=some x):l.drop i=x::l.drop (i+1):=by
 obtain⟨h1,h2⟩:=List.getElem?_eq_some_iff.1 h;rw[List.drop_eq_getElem_cons h1,h2]
def Lv.kind:Lv→Int | .mk k _ _=>k
def Lv.num:Lv→Int | .mk _ n _=>n
def Lv.args:Lv→List Lv | .mk _ _ ls=>ls
def jhU(k:Int):Int:=if k=1∨k=2 then 0 else if k=3 then 1 else if k=4∨k=5 then 2 else -1
def j6x(l:Lv):Int:=64-max (j1Q l 64) (-1)
def j8N:Lv→Int→Bool
 | .mk k n ls,p=>if(ls.length:Int)=jhU k then(if k=1 then decide (0≤n∧n≤100) else if k=2 then decide (0≤n∧n<p) else decide (n=0)) else false
mutual
def allF:Lv→Int→Bool
 | .mk k n ls,p=>j8N (.mk k n ls) p&&j2T ls p
def j2T:List Lv→Int→Bool
 |[],_=>true
 |l::r,p=>allF l p&&j2T r p
end
def j0m(l:Lv)(p:Int):Bool:=decide (0≤p)&&(decide (p≤4)&&(decide (j6x l≤64)&&allF l p))
theorem jks(a b:Int):(if a<b then b else a)=max a b:=by
 by_cases h:a<b
 ·rw[if_pos h];omega
 ·rw[if_neg h];omega
theorem LvV.open{cs:List Value}(h:LvV m l cs):∃k n ls a cap,l=.mk k n ls∧cs=[.int .i64 k,.int .i64 n,.slice a ls.length cap]∧i64 k∧i64 n∧ls.length≤3518437208780 ∧
  (∀i x,ls[i]?=some x→∃b off k1 n1 l1 a1 cap1,a=some ⟨b,off,none⟩∧x=.mk k1 n1 l1∧RdN m b (off+i*3) [.int .i64 k1,.int .i64 n1,.slice a1 l1.length cap1]∧LvV m x [.int .i64 k1,.int .i64 n1,.slice a1 l1.length cap1]):=by
 obtain⟨k,n,ls⟩:=l;have h0:=h;simp only[LvV] at h;obtain⟨h1,h2,a,cap,rfl,h4,h5⟩:=h;refine⟨k,n,ls,a,cap,rfl,rfl,h1,h2,h4.2,fun i x hx=>?_⟩
 obtain⟨b,off,rfl,hb⟩:=h5.resolve_left (fun e=>by rw[e] at hx;simp at hx)
 obtain⟨cc,hrd,hlv⟩:=LvsV.at hb hx;obtain⟨k1,n1,l1⟩:=x;have hlv':=hlv;simp only[LvV] at hlv';obtain⟨_,_,a1,cap1,rfl,_,_⟩:=hlv';exact⟨b,off,k1,n1,l1,a1,cap1,rfl,rfl,hrd,hlv⟩
def ju9(k n:Int)(vs:List Int)(f:Int→Int):Int:=
 if k=1 then n else if k=2 then f n else if k=3 then vs.getD 0 0+1 else if k=5∧vs.getD 1 0=0 then 0 else max (vs.getD 0 0) (vs.getD 1 0)
mutual
def valF:Lv→(Int→Int)→Int
 | .mk k n ls,f=>ju9 k n (jvq ls f) f
def jvq:List Lv→(Int→Int)→List Int
 |[],_=>[]
 |l::r,f=>valF l f::jvq r f
end
mutual
def j0J:Lv→Nat
 | .mk _ _ ls=>j09 ls+1
def j09:List Lv→Nat
 |[]=>0
 |l::r=>j0J l+j09 r
end
theorem jhy:∀{ls:List Lv}{i:Nat}{x:Lv},ls[i]?=some x→j0J x≤j09 ls
 |[],_,_,h=>by simp at h
 |l::r,0,x,h=>by simp at h;subst h;simp only[j09];omega
 |l::r,i+1,x,h=>by
  have:=jhy (ls:=r) (i:=i) (x:=x) (by simpa using h)
  simp only[j09];omega
theorem jfs(h:j0J (.mk k n ls)≤q)(hx:ls[i]?=some x):j0J x≤q:=by
 have:=jhy hx;simp only[j0J] at h;omega
theorem j5p:∀{ls:List Lv}{i:Nat}{x:Lv}{p:Int},j2T ls p=true→ls[i]?=some x→allF x p=true
 |[],_,_,_,_,h=>by simp at h
 |l::r,0,x,p,h,e=>by simp at e;subst e;simp only[j2T,Bool.and_eq_true] at h;exact h.1
 |l::r,i+1,x,p,h,e=>by
  simp only[j2T,Bool.and_eq_true] at h;exact j5p h.2 (by simpa using e)
theorem j9q(h:allF (.mk k n ls) p=true)(hx:ls[i]?=some x):allF x p=true:=by
 simp only[allF,Bool.and_eq_true] at h;exact j5p h.2 hx
theorem j8f(h:allF (.mk k n ls) p=true):j8N (.mk k n ls) p=true:=by
 simp only[allF,Bool.and_eq_true] at h;exact h.1
theorem j5b(h:j8N (.mk k n ls) p=true):
  (k=1∧ls=[]∧0≤n∧n≤100)∨(k=2∧ls=[]∧0≤n∧n<p)∨(k=3∧n=0∧∃x,ls=[x])∨((k=4∨k=5)∧n=0∧∃x y,ls=[x,y]):=by
 simp only[j8N] at h;split at h
 ·rename_i hw;unfold jhU at hw
  by_cases h1:k=1
  ·subst h1;simp at h hw;exact .inl ⟨rfl,hw,h⟩
  ·by_cases h2:k=2
   ·subst h2;simp at h hw;exact .inr (.inl ⟨rfl,hw,h⟩)
   ·rw[if_neg (by omega)] at hw
    simp only[h1,h2,if_false,decide_eq_true_eq] at h
    by_cases h3:k=3
    ·subst h3;simp at hw;refine .inr (.inr (.inl ⟨rfl,h,?_⟩));match ls,hw with
     |[x],_=>exact⟨x,rfl⟩
     |[],hw=>simp at hw
     |_::_::_,hw=>simp at hw;omega
    ·rw[if_neg h3] at hw
     by_cases h4:k=4∨k=5
     ·rw[if_pos h4] at hw;refine .inr (.inr (.inr ⟨h4,h,?_⟩));match ls,hw with
      |[x,y],_=>exact⟨x,y,rfl⟩
      |[],hw=>simp at hw
      |[_],hw=>simp at hw
      |_::_::_::_,hw=>simp at hw;omega
     ·rw[if_neg h4] at hw;omega
 ·cases h
theorem jn1(h:allF (.mk k n ls) p=true)(hk:k=2):0≤n∧n<p:=by
 rcases j5b (j8f h) with⟨h1,_⟩|⟨_,_,h2⟩|⟨h1,_⟩|⟨h1,_⟩<;>omega
theorem jqg(h:allF (.mk k n ls) p=true)(hk:k=3):∃x,ls=[x]:=by
 rcases j5b (j8f h) with⟨h1,_⟩|⟨h1,_⟩|⟨_,_,h2⟩|⟨h1,_⟩
 ·omega
 ·omega
 ·exact h2
 ·omega
theorem jtd(h:allF (.mk k n ls) p=true)(h1:k≠1)(h2:k≠2)(h3:k≠3):∃x y,ls=[x,y]:=by
 rcases j5b (j8f h) with⟨e,_⟩|⟨e,_⟩|⟨e,_⟩|⟨_,_,e⟩
 ·omega
 ·omega
 ·omega
 ·exact e
def IntsV(m:Mem)(vs:List Int)(sv:Value):Prop:=∃a cap,sv=.slice a vs.length cap∧vs.length≤cap∧vs.length≤140737488355328∧∀i v,vs[i]?=some v→∃b off,a=some ⟨b,off,none⟩∧Rd m b (off+i*1) (.int .i64 v)
theorem IntsV.mono{vs:List Int}(h:IntsV m vs sv)(hle:Mem.le m m'):IntsV m' vs sv:=by
 obtain⟨a,cap,h1,h2,h3,h4⟩:=h;exact⟨a,cap,h1,h2,h3,fun i v hv=>by obtain⟨b,off,h5,h6⟩:=h4 i v hv;exact⟨b,off,h5,h6.mono hle⟩⟩
def jjF(vs:List Int)(i:Int):Int:=match vs[i.toNat]? with
 |some v=>min (max v 0) 1048576
 |none=>0
def jvA(vs:List Int)(g i:Nat):Int:=if i<g then jjF vs i else 0
def jvW(l:Lv)(vs:List Int):Int:=if j0m l 4=true then valF l (jjF vs) else 0
mutual
theorem jgr:∀(l:Lv) (left:Int),0≤left→((j0J l:Int)≤left→j1Q l left=left-j0J l)∧(left<(j0J l:Int)→j1Q l left = -1)
 | .mk k n ls,left,h=>by
  have e:j0J (.mk k n ls)=j09 ls+1:=by simp[j0J]
  have h1:=j9z ls (left-1) (by omega)
  have e2:j1Q (.mk k n ls) left=j0F ls (left-1):=by simp[j1Q]
  rw[e,e2];refine⟨fun h2=>?_,fun h2=>?_⟩
  ·rw[h1.1 (by omega)];omega
  ·by_cases h3:ls=[]
   ·subst h3;simp[j09] at h2;simp[j0F];omega
   ·exact h1.2 (by omega) h3
theorem j9z:∀(ls:List Lv) (left:Int),-1≤left→((j09 ls:Int)≤left→j0F ls left=left-j09 ls)∧(left<(j09 ls:Int)→ls≠[]→j0F ls left = -1)
 |[],left,h=>by simp[j0F,j09]
 |l::r,left,h=>by
  have hp:1≤j0J l:=by cases l;simp[j0J]
  have e:j09 (l::r)=j0J l+j09 r:=by simp[j09]
  rw[e]
  by_cases h0:left<0
  ·have e2:j0F (l::r) left=left:=by simp[j0F,h0]
   rw[e2];exact⟨fun h2=>by omega,fun _ _=>by omega⟩
  ·have e2:j0F (l::r) left=j0F r (j1Q l left):=by simp[j0F,h0]
   have h1:=jgr l left (by omega)
   rw[e2]
   by_cases h3:(j0J l:Int)≤left
   ·rw[h1.1 h3];have h4:=j9z r (left-j0J l) (by omega)
    refine⟨fun h2=>by rw[h4.1 (by omega)];omega,fun h2 _=>?_⟩
    by_cases h5:r=[]
    ·subst h5;simp[j09] at h2;omega
    ·exact h4.2 (by omega) h5
   ·rw[h1.2 (by omega),j3Y _ _ (by omega)]
    exact⟨fun h2=>by omega,fun _ _=>rfl⟩
end
theorem j4g(l:Lv):j6x l=min (j0J l:Int) 65:=by
 unfold j6x;have h:=jgr l 64 (by omega)
 by_cases h1:(j0J l:Int)≤64
 ·rw[h.1 h1];omega
 ·rw[h.2 (by omega)];omega
theorem j5h(h:j0m l p=true):allF l p=true:=by
 simp only[j0m,Bool.and_eq_true] at h;exact h.2.2.2
theorem jca(h:j0m l p=true):j0J l≤64:=by
 simp only[j0m,Bool.and_eq_true,decide_eq_true_eq,j4g] at h;omega
theorem j9U(h:j0m l p=true):j0J l≤100000:=by
 have:=jca h;omega
structure Fm where
 num:Int
 off:Nat→Int
def Fm.cells(f:Fm):List Value:=[.int .i64 f.num,.int .i64 (f.off 0),.int .i64 (f.off 1),.int .i64 (f.off 2),.int .i64 (f.off 3)]
def Fm.v(f:Fm):Value:=.agg #[.int .i64 f.num,.int .i64 (f.off 0),.int .i64 (f.off 1),.int .i64 (f.off 2),.int .i64 (f.off 3)]
def Fm.ok(f:Fm)(q:Int):Prop:=(-1≤f.num∧f.num≤q)∧∀j,-1≤f.off j∧f.off j≤q
def jw1(g:Nat)(F G:Nat→Int)(j:Nat):Int:=if j<g then G j else F j
def j1U(n:Int):Fm:=⟨n,fun _=>-1⟩
def rise(x:Int):Int:=if x = -1 then -1 else x+1
def jc7(f:Fm):Fm:=⟨rise f.num,fun j=>rise (f.off j)⟩
def joinF(f g:Fm):Fm:=⟨max f.num g.num,fun j=>max (f.off j) (g.off j)⟩
def jbK(f:Fm):Nat→Int
 |0=>f.num
 |g+1=>if f.off g = -1 then jbK f g else max (jbK f g) (f.off g+1)
def joB(f:Fm):Int:=jbK f 4
def j8O(f g:Fm):Nat→Bool
 |0=>true
 |i+1=>j8O f g i&&decide (f.off i≤g.off i)
def jd6(f g:Fm):Bool:=j8O f g 4&&decide (f.num≤joB g)
def jug(f:Fm):Bool:=decide (f.num=0)&&(decide (f.off 0 = -1)&&(decide (f.off 1 = -1)&&(decide (f.off 2 = -1)&&decide (f.off 3 = -1))))
def bit(z n:Int):Int:=z/2^n.toNat%2
def j8P(z n:Int):Fm:=if bit z n=0 then⟨-1,fun j=>if(j:Int)=n then 0 else -1⟩ else j1U 0
def j5G(k n:Int)(fs:List Fm)(z:Int):Fm:=
 if k=1 then j1U n else if k=2 then j8P z n else if k=3 then jc7 (fs.getD 0 (j1U 0)) else if k=5∧jug (fs.getD 1 (j1U 0))=true then fs.getD 1 (j1U 0) else joinF (fs.getD 0 (j1U 0)) (fs.getD 1 (j1U 0))
mutual
def j2M:Lv→Int→Fm
 | .mk k n ls,z=>j5G k n (jjW ls z) z
def jjW:List Lv→Int→List Fm
 |[],_=>[]
 |l::r,z=>j2M l z::jjW r z
end
theorem jgN:j2M (.mk 3 n [x]) z=jc7 (j2M x z):=by simp[j2M,jjW,j5G]
theorem j8z{y:Lv}(h1:¬k=1)(h2:¬k=2)(h3:¬k=3):j2M (.mk k n [x,y]) z=if k=5∧jug (j2M y z)=true then j2M y z else joinF (j2M x z) (j2M y z):=by simp[j2M,jjW,j5G,h1,h2,h3]
theorem jjV(l:Lv):∀z:Int,allF l 4=true→(j2M l z).ok (100+j0J l):=by
 induction l using Lv.ind with
 |_ k n ls ih=>
  intro z hall;rcases j5b (j8f hall) with⟨rfl,rfl,h1⟩|⟨rfl,rfl,h1⟩|⟨rfl,rfl,x,rfl⟩|⟨hk,rfl,x,y,rfl⟩
  ·simp[j2M,j5G,j1U,Fm.ok];omega
  ·have e:j2M (.mk 2 n []) z=j8P z n:=by simp[j2M,j5G]
   rw[e];unfold j8P
   ·split
    ·refine⟨by simp;omega,fun j=>?_⟩
     simp only;split<;>omega
    ·exact⟨by simp[j1U];omega,fun j=>by simp[j1U];omega⟩
  ·have h:=ih x (by simp) z (j9q hall (i:=0) rfl)
   rw[jgN];have hs:j0J (.mk 3 0 [x])=j0J x+1:=by simp[j0J,j09]
   rw[hs];refine⟨?_,fun j=>?_⟩
   ·have:=h.1;simp only[jc7,rise];split<;>omega
   ·have:=h.2 j;simp only[jc7,rise];split<;>omega
  ·have hx:=ih x (by simp) z (j9q hall (i:=0) rfl)
   have hy:=ih y (by simp) z (j9q hall (i:=1) rfl)
   rw[j8z (by omega) (by omega) (by omega)]
   have hs:j0J (.mk k 0 [x,y])=j0J x+j0J y+1:=by simp[j0J,j09]
   rw[hs];split
   ·exact⟨by have:=hy.1;omega,fun j=>by have:=hy.2 j;omega⟩
   ·refine⟨by have:=hx.1;have:=hy.1;simp only[joinF];omega,fun j=>by have:=hx.2 j;have:=hy.2 j;simp only[joinF];omega⟩
def jh1(a b:Lv):Nat→Bool
 |0=>true
 |z+1=>jh1 a b z&&jd6 (j2M a z) (j2M b z)
def leqF(a b:Lv):Bool:=j0m a 4&&(j0m b 4&&jh1 a b 16)
theorem jiJ{a b:Lv}(hi:i<16)(h:jd6 (j2M a i) (j2M b i)=false):jh1 a b 16=false:=by
 have key:∀g,i<g→jh1 a b g=false:=by
  intro g
  induction g with
  |zero=>intro h';omega
  |succ g ih=>
   intro hg
   by_cases e:i=g
   ·subst e;simp[jh1,h]
   ·simp[jh1,ih (by omega)]
 exact key 16 hi
theorem jvf(h:0≤z):0≤z/2^q:=Int.ediv_nonneg h (Int.le_of_lt (Int.pow_pos (by omega)))
theorem jvg(h:0≤z)(h1:z<16):z/2^q<64:=by
 have h2:z/2^q≤z:=Int.ediv_le_self _ h;omega
theorem juS{f:Fm}(h:f.ok (100+q))(hq:q≤100000):f.ok 1000000:=⟨by have:=h.1;omega,fun j=>by have:=h.2 j;omega⟩
def LvsS(m:Mem)(ls:List Lv)(sv:Value):Prop:=∃a cap,sv=.slice a ls.length cap∧ls.length≤cap∧ls.length≤3518437208780∧(ls=[]∨∃b off,a=some ⟨b,off,none⟩∧LvsV m ls b off)
theorem LvsS.mono(h:LvsS m ls sv)(hle:Mem.le m m'):LvsS m' ls sv:=by
 obtain⟨a,cap,h1,h2,h3,h4⟩:=h;refine⟨a,cap,h1,h2,h3,?_⟩;rcases h4 with h4|⟨b,off,h5,h6⟩
 ·exact .inl h4
 ·exact .inr ⟨b,off,h5,LvsV.mono hle h6⟩
theorem LvsS.open(h:LvsS m ls sv):∃a cap,sv=.slice a ls.length cap∧ls.length≤cap∧ls.length≤3518437208780 ∧
  (∀i x,ls[i]?=some x→∃b off k1 n1 l1 a1 cap1,a=some ⟨b,off,none⟩∧x=.mk k1 n1 l1∧RdN m b (off+i*3) [.int .i64 k1,.int .i64 n1,.slice a1 l1.length cap1]∧LvV m x [.int .i64 k1,.int .i64 n1,.slice a1 l1.length cap1]):=by
 obtain⟨a,cap,h1,h2,h3,h5⟩:=h;refine⟨a,cap,h1,h2,h3,fun i x hx=>?_⟩
 obtain⟨b,off,rfl,hb⟩:=h5.resolve_left (fun e=>by rw[e] at hx;simp at hx)
 obtain⟨cc,hrd,hlv⟩:=LvsV.at hb hx;obtain⟨k1,n1,l1⟩:=x;have hlv':=hlv;simp only[LvV] at hlv';obtain⟨_,_,a1,cap1,rfl,_,_⟩:=hlv';exact⟨b,off,k1,n1,l1,a1,cap1,rfl,rfl,hrd,hlv⟩
theorem LvsS.tail{r:List Lv}{b off cap:Nat}(h:LvsS m (x::r) (.slice (some ⟨b,off,none⟩) (x::r).length cap))(hr:cap≠1):LvsS m r (.slice (some ⟨b,if cap=1 then off else off+1*3,none⟩) ((x::r).length-1) (cap-1)):=by
 obtain⟨a,c,h1,h2,h3,h4⟩:=h;simp only[Value.slice.injEq] at h1;obtain⟨rfl,_,rfl⟩:=h1;obtain⟨b',off',e,h5⟩:=h4.resolve_left (by simp)
 cases e;simp only[LvsV] at h5;rw[if_neg hr];have e:(x::r).length-1=r.length:=by simp
 rw[e];simp only[List.length_cons] at h2 h3;exact⟨_,_,rfl,by omega,by omega,.inr ⟨b,off+1*3,rfl,h5.2⟩⟩
def LvAll(m:Mem):List Lv→List (List Value)→Prop
 |[],[]=>True
 |l::ls,c::cs=>LvV m l c∧LvAll m ls cs
 |_,_=>False
theorem LvAll.mono{m m':Mem}(hle:Mem.le m m'):∀{ls:List Lv}{cs:List (List Value)},LvAll m ls cs→LvAll m' ls cs
 |[],[],_=>trivial
 |_::_,_::_,h=>⟨h.1.mono hle,LvAll.mono hle h.2⟩
 |[],_::_,h=>h.elim
 |_::_,[],h=>h.elim
theorem LvAll.snoc{m:Mem}:∀{ls:List Lv}{cs:List (List Value)}{l:Lv}{c:List Value},LvAll m ls cs→LvV m l c→LvAll m (ls++[l]) (cs++[c])
 |[],[],_,_,_,h=>⟨h,trivial⟩
 |_::_,_::_,_,_,h,h'=>⟨h.1,LvAll.snoc h.2 h'⟩
 |[],_::_,_,_,h,_=>h.elim
 |_::_,[],_,_,h,_=>h.elim
theorem LvV.len3{c:List Value}(h:LvV m l c):c.length=3:=by
 obtain⟨k,n,ls,a,cap,rfl,rfl,_⟩:=h.open;rfl
theorem LvAll.flat{m:Mem}{b:Nat}:∀{ls:List Lv}{cs:List (List Value)}{off:Nat},LvAll m ls cs→RdN m b off cs.flatten→LvsV m ls b off
 |[],[],_,_,_=>trivial
 |l::ls,c::cs,off,h,hr=>by
  have h3:=h.1.len3;refine⟨⟨c,fun j v hj=>hr j v ?_,h.1⟩,LvAll.flat h.2 fun j v hj=>?_⟩
  ·rw[List.flatten_cons,List.getElem?_append_left (List.getElem?_eq_some_iff.1 hj).1];exact hj
  ·have:=hr (3+j) v (by rw[List.flatten_cons,List.getElem?_append_right (by omega),h3];simpa using hj)
   rwa [←Nat.add_assoc] at this
 |[],_::_,_,h,_=>h.elim
 |_::_,[],_,h,_=>h.elim
theorem LvAll.made{cs:List (List Value)}{a:Option Addr}(h:LvAll m ls cs)(hr:RowAt m a cs.flatten):ls=[]∨∃b off,a=some ⟨b,off,none⟩∧LvsV m ls b off:=by
 rcases hr with hr|⟨b,rfl,hr⟩
 ·left
  match ls,cs,h with
  |[],_,_=>rfl
  |l::ls,c::cs,h=>
   have h3:=h.1.len3;rw[List.flatten_cons] at hr;simp at hr;rw[hr.1] at h3;simp at h3
 ·exact .inr ⟨b,0,rfl,h.flat hr⟩
def jeM(k n:Int)(ls:List Lv)(bys:List Lv):Lv:=if k=2 then bys.getD n.toNat (.mk 0 0 []) else .mk k n ls
mutual
def j2F:Lv→List Lv→Lv
 | .mk k n ls,bys=>jeM k n (j5W ls bys) bys
def j5W:List Lv→List Lv→List Lv
 |[],_=>[]
 |l::r,bys=>j2F l bys::j5W r bys
end
def j6m(k n:Int)(s:Int)(bys:List Lv):Int:=if k=2 then j6x (bys.getD n.toNat (.mk 0 0 [])) else 1+s
mutual
def j3F:Lv→List Lv→Int
 | .mk k n ls,bys=>j6m k n (j1N ls bys) bys
def j1N:List Lv→List Lv→Int
 |[],_=>0
 |l::r,bys=>j3F l bys+j1N r bys
end
def j5t:List Lv→Bool
 |[]=>true
 |l::r=>j0m l 4&&j5t r
def InstF(l:Lv)(bys:List Lv):Option Lv:=if j0m l bys.length=true then(if j5t bys=true then(if j3F l bys≤64 then some (j2F l bys) else none) else none) else none
theorem jhc(l:Lv):1≤j6x l∧j6x l≤65:=by
 have h:1≤j0J l:=by cases l;simp[j0J]
 rw[j4g];omega
mutual
theorem jgR:∀(l:Lv) (bys:List Lv),1≤j3F l bys∧j3F l bys≤65*j0J l
 | .mk k n ls,bys=>by
  have h:=j3K ls bys;have h2:=jhc (bys.getD n.toNat (.mk 0 0 []));have e:j3F (.mk k n ls) bys=j6m k n (j1N ls bys) bys:=by simp[j3F]
  have e2:j0J (.mk k n ls)=j09 ls+1:=by simp[j0J]
  rw[e,e2];unfold j6m;split<;>omega
theorem j3K:∀(ls:List Lv) (bys:List Lv),0≤j1N ls bys∧j1N ls bys≤65*j09 ls
 |[],bys=>by simp[j1N,j09]
 |l::r,bys=>by
  have h1:=jgR l bys;have h2:=j3K r bys;have e:j1N (l::r) bys=j3F l bys+j1N r bys:=by simp[j1N]
  have e2:j09 (l::r)=j0J l+j09 r:=by simp[j09]
  rw[e,e2];omega
end
theorem j8E:∀(ls bys:List Lv),(j5W ls bys).length=ls.length
 |[],_=>rfl
 |l::r,bys=>by simp[j5W,j8E r bys]
theorem j7U(ls:List Lv)(i:Nat):j09 (ls.take i)≤j09 ls:=by
 induction ls generalizing i with
 |nil=>simp[j09]
 |cons x r ih=>
  cases i with
  |zero=>simp[j09]
  |succ i=>simp only[List.take_succ_cons,j09];have:=ih i;omega
mutual
def lnF:Lv→Int→Int
 | .mk _ _ ls,q=>min (lnFs ls 1 q) (q+1)
def lnFs:List Lv→Int→Int→Int
 |[],acc,_=>acc
 |l::r,acc,q=>if acc≤q then lnFs r (acc+lnF l q) q else acc
end
mutual
theorem jh4:∀(l:Lv) (q:Int),0≤q→lnF l q=min (j0J l:Int) (q+1)
 | .mk k n ls,q,h=>by
  have h1:=jbO ls 1 q h (by omega)
  have e:lnF (.mk k n ls) q=min (lnFs ls 1 q) (q+1):=by simp[lnF]
  have e2:j0J (.mk k n ls)=j09 ls+1:=by simp[j0J]
  rw[e,e2];omega
theorem jbO:∀(ls:List Lv) (acc q:Int),0≤q→1≤acc→min (lnFs ls acc q) (q+1)=min (acc+j09 ls) (q+1)
 |[],acc,q,h,ha=>by simp[lnFs,j09]
 |l::r,acc,q,h,ha=>by
  have h1:=jh4 l q h;have hp:1≤j0J l:=by cases l;simp[j0J]
  have e2:j09 (l::r)=j0J l+j09 r:=by simp[j09]
  rw[e2]
  by_cases hq:acc≤q
  ·have e:lnFs (l::r) acc q=lnFs r (acc+lnF l q) q:=by simp[lnFs,hq]
   have h2:=jbO r (acc+lnF l q) q h (by omega)
   rw[e,h2];omega
  ·have e:lnFs (l::r) acc q=acc:=by simp[lnFs,hq]
   rw[e];omega
end
mutual
def ju3:Lv→Lv→Bool
 | .mk k n ls,.mk k' n' ls'=>decide (k=k')&&(decide (n=n')&&(decide (ls.length=ls'.length)&&j2k ls ls'))
def j2k:List Lv→List Lv→Bool
 |[],_=>true
 |_::_,[]=>true
 |l::r,l'::r'=>ju3 l l'&&j2k r r'
end
mutual
theorem jmn:∀l:Lv,ju3 l l=true
 | .mk k n ls=>by simp[ju3,jcc ls]
theorem jcc:∀ls:List Lv,j2k ls ls=true
 |[]=>by simp[j2k]
 |l::r=>by simp[j2k,jmn l,jcc r]
end
def pts(i:Nat):Int:=[0,1,1000].getD i 0
def pt(i j k m:Nat):List Int:=[pts i,pts j,pts k,pts m]
def leAt(a b:Lv)(i j k m:Nat):Bool:=decide (valF a (jjF (pt i j k m))≤valF b (jjF (pt i j k m)))
def all3(g:Nat)(p:Nat→Bool):Bool:=match g with
 |0=>true
 |g+1=>all3 g p&&p g
def leqR(a b:Lv):Bool:=j0m a 4&&(j0m b 4&&all3 3 fun i=>all3 3 fun j=>all3 3 fun k=>all3 3 fun m=>leAt a b i j k m)
end Go.Gw

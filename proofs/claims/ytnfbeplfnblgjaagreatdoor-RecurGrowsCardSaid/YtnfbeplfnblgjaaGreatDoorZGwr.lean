/- Rows of the run's own: out of a block that was written out; looked at in the middle of a run. Plain lemmas. -/
import Derived.Test.YtnfbeplfnblgjaaGreatDoorZGwa
set_option linter.all false
namespace Go.Gw
open Go
section
variable{E:Entry}{P:Program}{n:Nat}{K:Exit→St→Prop}{ρ:Env}{m:Mem}{μ:Own}{D:List Deferred}{ops:Array Oper}{rest:List Oper}
 {d:Nat}{ty:TypeId}{pos:String}{after:Array Edge}
variable{dst:Option Nat}{gd:Option (Nat×Bool)}{T T':TypeId}{x y z:Operand}{i j:Int}
end
open Go
inductive Lv where
 |mk (k n:Int) (ls:List Lv)
mutual
theorem Lv.ind{P:Lv→Prop}(h:∀k n ls,(∀l∈ls,P l)→P (.mk k n ls)):∀l,P l
 | .mk k n ls=>h k n ls (Lv.inds h ls)
theorem Lv.inds{P:Lv→Prop}(h:∀k n ls,(∀l∈ls,P l)→P (.mk k n ls)):∀ls:List Lv,∀l∈ls,P l
 |[],_,hl=>by cases hl
 |x::r,l,hl=>by
  rcases List.mem_cons.1 hl with e|e
  ·rw[e];exact Lv.ind h x
  ·exact Lv.inds h r l e
end
mutual
def LvV(m:Mem):Lv→List Value→Prop
 | .mk k n ls,cs=>i64 k∧i64 n∧∃a cap,cs=[.int .i64 k,.int .i64 n,.slice a ls.length cap]∧(ls.length≤cap∧ls.length≤3518437208780)∧(ls=[]∨∃b off,a=some ⟨b,off,none⟩∧LvsV m ls b off)
def LvsV(m:Mem):List Lv→Nat→Nat→Prop
 |[],_,_=>True
 |l::r,b,off=>(∃cs,RdN m b off cs∧LvV m l cs)∧LvsV m r b (off+3)
end
mutual
theorem LvV.mono{m m':Mem}(hle:Mem.le m m'):∀{l:Lv}{cs:List Value},LvV m l cs→LvV m' l cs
 | .mk k n ls,cs,h=>by
  simp only[LvV] at h⊢;obtain⟨h1,h2,a,cap,h3,h4,h5⟩:=h;refine⟨h1,h2,a,cap,h3,h4,?_⟩;rcases h5 with h5|⟨b,off,h6,h7⟩
  ·exact .inl h5
  ·exact .inr ⟨b,off,h6,LvsV.mono hle h7⟩
theorem LvsV.mono{m m':Mem}(hle:Mem.le m m'):∀{ls:List Lv}{b off:Nat},LvsV m ls b off→LvsV m' ls b off
 |[],_,_,_=>trivial
 |l::r,b,off,h=>by
  simp only[LvsV] at h⊢;obtain⟨⟨cs,h1,h2⟩,h3⟩:=h;exact⟨⟨cs,h1.mono hle,LvV.mono hle h2⟩,LvsV.mono hle h3⟩
end
theorem LvsV.at{m:Mem}:∀{ls:List Lv}{b off i:Nat}{l:Lv},LvsV m ls b off→ls[i]?=some l→∃cs,RdN m b (off+i*3) cs∧LvV m l cs
 |[],_,_,_,_,_,h=>by simp at h
 |x::r,b,off,0,l,h,e=>by
  simp_all[List.getElem?_cons_zero,Option.some.injEq,LvsV]
 |x::r,b,off,i+1,l,h,e=>by
  simp only[List.getElem?_cons_succ] at e;simp only[LvsV] at h;have:=LvsV.at h.2 e
  grind
mutual
def j0y:Lv→Int→Int
 | .mk _ _ ls,left=>j0d ls (left-1)
def j0d:List Lv→Int→Int
 |[],left=>left
 |l::r,left=>if left<0 then left else j0d r (j0y l left)
end
mutual
theorem j2j:∀(l:Lv) (left:Int),0≤left→-1≤j0y l left∧j0y l left≤left
 | .mk _ _ ls,left,h=>by
  simp only[j0y];have:=j1F ls (left-1) (by omega)
  omega
theorem j1F:∀(ls:List Lv) (left:Int),-1≤left→-1≤j0d ls left∧j0d ls left≤left
 |[],left,h=>by simp only[j0d];omega
 |l::r,left,h=>by
  simp only[j0d];split
  ·omega
  ·have h1:=j2j l left (by omega)
   have h2:=j1F r (j0y l left) (by omega)
   omega
end
theorem j1q(ls:List Lv)(left:Int)(h:left<0):j0d ls left=left:=by
 cases ls<;>simp[j0d,h]
variable{ls:List Lv}{l:Lv}{m m':Mem}{i:Nat}{α:Type}{sv:Value}
theorem take_snoc'{l:List α}{x:α}(h:l[i]?=some x):l.take (i+1)=l.take i++[x]:=by
 obtain⟨h1,h2⟩:=List.getElem?_eq_some_iff.1 h;rw[List.take_succ_eq_append_getElem h1,h2]
theorem drop_at{l:List α}{x:α}(h:l[i]?=some x):l.drop i=x::l.drop (i+1):=by
 obtain⟨h1,h2⟩:=List.getElem?_eq_some_iff.1 h;rw[List.drop_eq_getElem_cons h1,h2]
def Lv.kind:Lv→Int | .mk k _ _=>k
def Lv.num:Lv→Int | .mk _ n _=>n
def Lv.args:Lv→List Lv | .mk _ _ ls=>ls
def j9g(k:Int):Int:=if k=1∨k=2 then 0 else if k=3 then 1 else if k=4∨k=5 then 2 else -1
def j3x(l:Lv):Int:=64-max (j0y l 64) (-1)
def j7n:Lv→Int→Bool
 | .mk k n ls,p=>if(ls.length:Int)=j9g k then(if k=1 then decide (0≤n∧n≤100) else if k=2 then decide (0≤n∧n<p) else decide (n=0)) else false
mutual
def allF:Lv→Int→Bool
 | .mk k n ls,p=>j7n (.mk k n ls) p&&j2f ls p
def j2f:List Lv→Int→Bool
 |[],_=>true
 |l::r,p=>allF l p&&j2f r p
end
def j2e(l:Lv)(p:Int):Bool:=decide (0≤p)&&(decide (p≤4)&&(decide (j3x l≤64)&&allF l p))
theorem j8g(a b:Int):(if a<b then b else a)=max a b:=by
 omega
theorem LvV.open{cs:List Value}(h:LvV m l cs):∃k n ls a cap,l=.mk k n ls∧cs=[.int .i64 k,.int .i64 n,.slice a ls.length cap]∧i64 k∧i64 n∧ls.length≤3518437208780 ∧
  (∀i x,ls[i]?=some x→∃b off k1 n1 l1 a1 cap1,a=some ⟨b,off,none⟩∧x=.mk k1 n1 l1∧RdN m b (off+i*3) [.int .i64 k1,.int .i64 n1,.slice a1 l1.length cap1]∧LvV m x [.int .i64 k1,.int .i64 n1,.slice a1 l1.length cap1]):=by
 obtain⟨k,n,ls⟩:=l;have h0:=h;simp only[LvV] at h;obtain⟨h1,h2,a,cap,rfl,h4,h5⟩:=h;refine⟨k,n,ls,a,cap,rfl,rfl,h1,h2,h4.2,fun i x hx=>?_⟩
 obtain⟨b,off,rfl,hb⟩:=h5.resolve_left (fun e=>by grind)
 obtain⟨cc,hrd,hlv⟩:=LvsV.at hb hx;obtain⟨k1,n1,l1⟩:=x
 grind [LvV]
def jcZ(k n:Int)(vs:List Int)(f:Int→Int):Int:=
 if k=1 then n else if k=2 then f n else if k=3 then vs.getD 0 0+1 else if k=5∧vs.getD 1 0=0 then 0 else max (vs.getD 0 0) (vs.getD 1 0)
mutual
def valF:Lv→(Int→Int)→Int
 | .mk k n ls,f=>jcZ k n (jdR ls f) f
def jdR:List Lv→(Int→Int)→List Int
 |[],_=>[]
 |l::r,f=>valF l f::jdR r f
end
mutual
def j0Z:Lv→Nat
 | .mk _ _ ls=>j0c ls+1
def j0c:List Lv→Nat
 |[]=>0
 |l::r=>j0Z l+j0c r
end
theorem j7w:∀{ls:List Lv}{i:Nat}{x:Lv}{p:Int},j2f ls p=true→ls[i]?=some x→allF x p=true
 |[],_,_,_,_,h=>by simp at h
 |l::r,0,x,p,h,e=>by simp_all[j2f,Bool.and_eq_true]
 |l::r,i+1,x,p,h,e=>by
  simp only[j2f,Bool.and_eq_true] at h;exact j7w h.2 (by simpa using e)
def IntsV(m:Mem)(vs:List Int)(sv:Value):Prop:=∃a cap,sv=.slice a vs.length cap∧vs.length≤cap∧vs.length≤140737488355328∧∀i v,vs[i]?=some v→∃b off,a=some ⟨b,off,none⟩∧Rd m b (off+i*1) (.int .i64 v)
theorem IntsV.mono{vs:List Int}(h:IntsV m vs sv)(hle:Mem.le m m'):IntsV m' vs sv:=by
 obtain⟨a,cap,h1,h2,h3,h4⟩:=h;exact⟨a,cap,h1,h2,h3,fun i v hv=>by obtain⟨b,off,h5,h6⟩:=h4 i v hv;exact⟨b,off,h5,h6.mono hle⟩⟩
def j7D(vs:List Int)(i:Int):Int:=match vs[i.toNat]? with
 |some v=>min (max v 0) 1048576
 |none=>0
def je1(vs:List Int)(g i:Nat):Int:=if i<g then j7D vs i else 0
def jeW(l:Lv)(vs:List Int):Int:=if j2e l 4=true then valF l (j7D vs) else 0
mutual
theorem j6d:∀(l:Lv) (left:Int),0≤left→((j0Z l:Int)≤left→j0y l left=left-j0Z l)∧(left<(j0Z l:Int)→j0y l left = -1)
 | .mk k n ls,left,h=>by
  have e:j0Z (.mk k n ls)=j0c ls+1:=by simp[j0Z]
  have h1:=j3l ls (left-1) (by omega)
  grind [j0y,j0c,j0d]
theorem j3l:∀(ls:List Lv) (left:Int),-1≤left→((j0c ls:Int)≤left→j0d ls left=left-j0c ls)∧(left<(j0c ls:Int)→ls≠[]→j0d ls left = -1)
 |[],left,h=>by simp[j0d,j0c]
 |l::r,left,h=>by
  have hp:1≤j0Z l:=by cases l;simp[j0Z]
  have e:j0c (l::r)=j0Z l+j0c r:=by simp[j0c]
  rw[e]
  by_cases h0:left<0
  ·grind [j0d]
  ·have e2:j0d (l::r) left=j0d r (j0y l left):=by simp[j0d,h0]
   have h1:=j6d l left (by omega)
   rw[e2]
   by_cases h3:(j0Z l:Int)≤left
   ·rw[h1.1 h3];have h4:=j3l r (left-j0Z l) (by omega)
    grind [j0c]
   ·rw[h1.2 (by omega),j1q _ _ (by omega)]
    omega
end
theorem jaF(l:Lv):j3x l=min (j0Z l:Int) 65:=by
 unfold j3x;have h:=j6d l 64 (by omega)
 omega
structure Fm where
 num:Int
 off:Nat→Int
def Fm.cells(f:Fm):List Value:=[.int .i64 f.num,.int .i64 (f.off 0),.int .i64 (f.off 1),.int .i64 (f.off 2),.int .i64 (f.off 3)]
def Fm.v(f:Fm):Value:=.agg #[.int .i64 f.num,.int .i64 (f.off 0),.int .i64 (f.off 1),.int .i64 (f.off 2),.int .i64 (f.off 3)]
def Fm.ok(f:Fm)(q:Int):Prop:=(-1≤f.num∧f.num≤q)∧∀j,-1≤f.off j∧f.off j≤q
def jf3(g:Nat)(F G:Nat→Int)(j:Nat):Int:=if j<g then G j else F j
def j3Q(n:Int):Fm:=⟨n,fun _=>-1⟩
def rise(x:Int):Int:=if x = -1 then -1 else x+1
def jdF(f:Fm):Fm:=⟨rise f.num,fun j=>rise (f.off j)⟩
def jaq(f g:Fm):Fm:=⟨max f.num g.num,fun j=>max (f.off j) (g.off j)⟩
def j7l(f:Fm):Nat→Int
 |0=>f.num
 |g+1=>if f.off g = -1 then j7l f g else max (j7l f g) (f.off g+1)
def jds(f:Fm):Int:=j7l f 4
def jcb(f g:Fm):Nat→Bool
 |0=>true
 |i+1=>jcb f g i&&decide (f.off i≤g.off i)
def jda(f g:Fm):Bool:=jcb f g 4&&decide (f.num≤jds g)
def jeN(f:Fm):Bool:=decide (f.num=0)&&(decide (f.off 0 = -1)&&(decide (f.off 1 = -1)&&(decide (f.off 2 = -1)&&decide (f.off 3 = -1))))
def bit(z n:Int):Int:=z/2^n.toNat%2
def jdD(z n:Int):Fm:=if bit z n=0 then⟨-1,fun j=>if(j:Int)=n then 0 else -1⟩ else j3Q 0
def jbs(k n:Int)(fs:List Fm)(z:Int):Fm:=
 if k=1 then j3Q n else if k=2 then jdD z n else if k=3 then jdF (fs.getD 0 (j3Q 0)) else if k=5∧jeN (fs.getD 1 (j3Q 0))=true then fs.getD 1 (j3Q 0) else jaq (fs.getD 0 (j3Q 0)) (fs.getD 1 (j3Q 0))
mutual
def jcE:Lv→Int→Fm
 | .mk k n ls,z=>jbs k n (jc5 ls z) z
def jc5:List Lv→Int→List Fm
 |[],_=>[]
 |l::r,z=>jcE l z::jc5 r z
end
def jdt(a b:Lv):Nat→Bool
 |0=>true
 |z+1=>jdt a b z&&jda (jcE a z) (jcE b z)
def leqF(a b:Lv):Bool:=j2e a 4&&(j2e b 4&&jdt a b 16)
def LvsS(m:Mem)(ls:List Lv)(sv:Value):Prop:=∃a cap,sv=.slice a ls.length cap∧ls.length≤cap∧ls.length≤3518437208780∧(ls=[]∨∃b off,a=some ⟨b,off,none⟩∧LvsV m ls b off)
theorem LvsS.mono(h:LvsS m ls sv)(hle:Mem.le m m'):LvsS m' ls sv:=by
 obtain⟨a,cap,h1,h2,h3,h4⟩:=h;refine⟨a,cap,h1,h2,h3,?_⟩;rcases h4 with h4|⟨b,off,h5,h6⟩
 ·exact .inl h4
 ·exact .inr ⟨b,off,h5,LvsV.mono hle h6⟩
theorem LvsS.open(h:LvsS m ls sv):∃a cap,sv=.slice a ls.length cap∧ls.length≤cap∧ls.length≤3518437208780 ∧
  (∀i x,ls[i]?=some x→∃b off k1 n1 l1 a1 cap1,a=some ⟨b,off,none⟩∧x=.mk k1 n1 l1∧RdN m b (off+i*3) [.int .i64 k1,.int .i64 n1,.slice a1 l1.length cap1]∧LvV m x [.int .i64 k1,.int .i64 n1,.slice a1 l1.length cap1]):=by
 obtain⟨a,cap,h1,h2,h3,h5⟩:=h;refine⟨a,cap,h1,h2,h3,fun i x hx=>?_⟩
 obtain⟨b,off,rfl,hb⟩:=h5.resolve_left (fun e=>by grind)
 obtain⟨cc,hrd,hlv⟩:=LvsV.at hb hx;obtain⟨k1,n1,l1⟩:=x
 grind [LvV]
theorem LvsS.tail{x:Lv}{r:List Lv}{b off cap:Nat}(h:LvsS m (x::r) (.slice (some ⟨b,off,none⟩) (x::r).length cap))(hr:cap≠1):LvsS m r (.slice (some ⟨b,if cap=1 then off else off+1*3,none⟩) ((x::r).length-1) (cap-1)):=by
 obtain⟨a,c,h1,h2,h3,h4⟩:=h;simp only[Value.slice.injEq] at h1;obtain⟨rfl,_,rfl⟩:=h1;obtain⟨b',off',e,h5⟩:=h4.resolve_left (by simp)
 cases e;simp only[LvsV] at h5;rw[if_neg hr];have e:(x::r).length-1=r.length:=by simp
 rw[e];simp only[List.length_cons] at h2 h3;exact⟨_,_,rfl,by omega,by omega,.inr ⟨b,off+1*3,rfl,h5.2⟩⟩
def LvAll(m:Mem):List Lv→List (List Value)→Prop
 |[],[]=>True
 |l::ls,c::cs=>LvV m l c∧LvAll m ls cs
 |_,_=>False
theorem LvAll.mono{m m':Mem}(hle:Mem.le m m'):∀{ls:List Lv}{cs:List (List Value)},LvAll m ls cs→LvAll m' ls cs
 |[],[],_=>trivial
 |_::_,_::_,h=>⟨h.1.mono hle,LvAll.mono hle h.2⟩
 |[],_::_,h=>h.elim
 |_::_,[],h=>h.elim
theorem LvAll.snoc{m:Mem}:∀{ls:List Lv}{cs:List (List Value)}{l:Lv}{c:List Value},LvAll m ls cs→LvV m l c→LvAll m (ls++[l]) (cs++[c])
 |[],[],_,_,_,h=>⟨h,trivial⟩
 |_::_,_::_,_,_,h,h'=>⟨h.1,LvAll.snoc h.2 h'⟩
 |[],_::_,_,_,h,_=>h.elim
 |_::_,[],_,_,h,_=>h.elim
theorem LvV.len3{c:List Value}(h:LvV m l c):c.length=3:=by
 obtain⟨k,n,ls,a,cap,rfl,rfl,_⟩:=h.open;rfl
theorem LvAll.flat{m:Mem}{b:Nat}:∀{ls:List Lv}{cs:List (List Value)}{off:Nat},LvAll m ls cs→RdN m b off cs.flatten→LvsV m ls b off
 |[],[],_,_,_=>trivial
 |l::ls,c::cs,off,h,hr=>by
  have h3:=h.1.len3;refine⟨⟨c,fun j v hj=>hr j v ?_,h.1⟩,LvAll.flat h.2 fun j v hj=>?_⟩
  ·grind
  ·have:=hr (3+j) v (by grind)
   grind
 |[],_::_,_,h,_=>h.elim
 |_::_,[],_,h,_=>h.elim
theorem LvAll.made{cs:List (List Value)}{a:Option Addr}(h:LvAll m ls cs)(hr:RowAt m a cs.flatten):ls=[]∨∃b off,a=some ⟨b,off,none⟩∧LvsV m ls b off:=by
 rcases hr with hr|⟨b,rfl,hr⟩
 ·left
  match ls,cs,h with
  |[],_,_=>rfl
  |l::ls,c::cs,h=>
   have h3:=h.1.len3
   simp_all
 ·exact .inr ⟨b,0,rfl,h.flat hr⟩
def j5r(k n:Int)(ls:List Lv)(bys:List Lv):Lv:=if k=2 then bys.getD n.toNat (.mk 0 0 []) else .mk k n ls
mutual
def j5q:Lv→List Lv→Lv
 | .mk k n ls,bys=>j5r k n (j4C ls bys) bys
def j4C:List Lv→List Lv→List Lv
 |[],_=>[]
 |l::r,bys=>j5q l bys::j4C r bys
end
def j6r(k n:Int)(s:Int)(bys:List Lv):Int:=if k=2 then j3x (bys.getD n.toNat (.mk 0 0 [])) else 1+s
mutual
def j6p:Lv→List Lv→Int
 | .mk k n ls,bys=>j6r k n (j3n ls bys) bys
def j3n:List Lv→List Lv→Int
 |[],_=>0
 |l::r,bys=>j6p l bys+j3n r bys
end
def j9F:List Lv→Bool
 |[]=>true
 |l::r=>j2e l 4&&j9F r
def InstF(l:Lv)(bys:List Lv):Option Lv:=if j2e l bys.length=true then(if j9F bys=true then(if j6p l bys≤64 then some (j5q l bys) else none) else none) else none
theorem j6y(l:Lv):1≤j3x l∧j3x l≤65:=by
 have h:1≤j0Z l:=by cases l;simp[j0Z]
 rw[jaF];omega
mutual
theorem j6q:∀(l:Lv) (bys:List Lv),1≤j6p l bys∧j6p l bys≤65*j0Z l
 | .mk k n ls,bys=>by
  have h:=j3c ls bys;have h2:=j6y (bys.getD n.toNat (.mk 0 0 []))
  grind [j6p,j0Z,j6r]
theorem j3c:∀(ls:List Lv) (bys:List Lv),0≤j3n ls bys∧j3n ls bys≤65*j0c ls
 |[],bys=>by simp[j3n,j0c]
 |l::r,bys=>by
  have h1:=j6q l bys;have h2:=j3c r bys
  grind [j3n,j0c]
end
theorem j7q(ls:List Lv)(i:Nat):j0c (ls.take i)≤j0c ls:=by
 induction ls generalizing i with
 |nil=>simp[j0c]
 |cons x r ih=>
  cases i with
  |zero=>simp[j0c]
  |succ i=>simp_all[List.take_succ_cons,j0c]
mutual
def lnF:Lv→Int→Int
 | .mk _ _ ls,q=>min (lnFs ls 1 q) (q+1)
def lnFs:List Lv→Int→Int→Int
 |[],acc,_=>acc
 |l::r,acc,q=>if acc≤q then lnFs r (acc+lnF l q) q else acc
end
mutual
theorem jas:∀(l:Lv) (q:Int),0≤q→lnF l q=min (j0Z l:Int) (q+1)
 | .mk k n ls,q,h=>by
  have h1:=j4d ls 1 q h (by omega)
  grind [lnF,j0Z]
theorem j4d:∀(ls:List Lv) (acc q:Int),0≤q→1≤acc→min (lnFs ls acc q) (q+1)=min (acc+j0c ls) (q+1)
 |[],acc,q,h,ha=>by simp[lnFs,j0c]
 |l::r,acc,q,h,ha=>by
  have h1:=jas l q h;have hp:1≤j0Z l:=by cases l;simp[j0Z]
  have e2:j0c (l::r)=j0Z l+j0c r:=by simp[j0c]
  rw[e2]
  by_cases hq:acc≤q
  ·have e:lnFs (l::r) acc q=lnFs r (acc+lnF l q) q:=by simp[lnFs,hq]
   have h2:=j4d r (acc+lnF l q) q h (by omega)
   rw[e,h2];omega
  grind [lnFs]
end
mutual
def jcU:Lv→Lv→Bool
 | .mk k n ls,.mk k' n' ls'=>decide (k=k')&&(decide (n=n')&&(decide (ls.length=ls'.length)&&j6D ls ls'))
def j6D:List Lv→List Lv→Bool
 |[],_=>true
 |_::_,[]=>true
 |l::r,l'::r'=>jcU l l'&&j6D r r'
end
mutual
theorem j8Z:∀l:Lv,jcU l l=true
 | .mk k n ls=>by simp[jcU,j4l ls]
theorem j4l:∀ls:List Lv,j6D ls ls=true
 |[]=>by simp[j6D]
 |l::r=>by simp[j6D,j8Z l,j4l r]
end
def pts(i:Nat):Int:=[0,1,1000].getD i 0
def pt(i j k m:Nat):List Int:=[pts i,pts j,pts k,pts m]
def leAt(a b:Lv)(i j k m:Nat):Bool:=decide (valF a (j7D (pt i j k m))≤valF b (j7D (pt i j k m)))
def all3(g:Nat)(p:Nat→Bool):Bool:=match g with
 |0=>true
 |g+1=>all3 g p&&p g
def leqR(a b:Lv):Bool:=j2e a 4&&(j2e b 4&&all3 3 fun i=>all3 3 fun j=>all3 3 fun k=>all3 3 fun m=>leAt a b i j k m)
end Go.Gw

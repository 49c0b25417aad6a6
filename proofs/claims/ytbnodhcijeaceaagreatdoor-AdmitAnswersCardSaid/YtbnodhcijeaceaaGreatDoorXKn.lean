/- Sorted maps that never change (package tree). -/
import Derived.Test.YtbnodhcijeaceaaGreatDoorXKg
set_option linter.all false
set_option maxHeartbeats 2000000
set_option maxRecDepth 100000
namespace Go.Proofs.YtbnodhcijeaceaaGreatDoor
open Go Go.Am Go.Gw
inductive Tr where
 |nil
 |nd (s:List UInt8) (n:Int) (l r:Tr) (d q:Int)
abbrev nilP:PV:=.sc (.pointer none)
def encR:Tr→PV
 | .nil=>nilP
 | .nd s n l r d q=>.cp [sv s,iv n,encR l,encR r,iv d,iv q]
def Tr.deep:Tr→Int
 | .nil=>0
 | .nd _ _ _ _ d _=>d
def Tr.count:Tr→Int
 | .nil=>0
 | .nd _ _ _ _ _ q=>q
def j0c(s:List UInt8)(n:Int)(l r:Tr):Tr:=.nd s n l r ((if r.deep>l.deep then r.deep else l.deep)+1) (l.count+r.count+1)
def Tr.ok:Tr→Nat→Prop
 | .nil,_=>True
 | .nd _ _ l r d q,m=>l.ok m∧r.ok m∧0≤d∧d≤m∧0≤q∧q≤m
variable{op:BinOp}{cs:List PV}{a b:List UInt8}{m z:Nat}{x y:Operand}{v:PV}{K:PV→Prop}{P:Program}{t:Tr}{T:TypeId}
def slss:j0i P .lss T x y (sv a) (sv b)=some (bv (Op.bytesLess a b)):=by
 simp only[j0i,j5r,eqGuard,binOp,Op.stringOp,j8t];rfl
def sgtr:j0i P .gtr T x y (sv a) (sv b)=some (bv (!(Op.bytesLess a b||a == b))):=by
 simp only[j0i,j5r,eqGuard,binOp,Op.stringOp,j8t];rfl
def juJ(op:BinOp)(a b:List UInt8)(K:PV→Prop):Prop:=match op with
 | .eql=>K (bv (a == b))
 | .neq=>K (bv (!(a == b)))
 | .lss=>K (bv (Op.bytesLess a b))
 | .gtr=>K (bv (!(Op.bytesLess a b||a == b)))
 |_=>False
def j7h(h:juJ op a b K):VRes (j0i P op T x y (sv a) (sv b)) K:=by
 cases op with
 |eql=>exact⟨_,seql,h⟩
 |neq=>exact⟨_,sneq,h⟩
 |lss=>exact⟨_,slss,h⟩
 |gtr=>exact⟨_,sgtr,h⟩
 |_=>exact h.elim
def Tr.isNil:Tr→Bool
 | .nil=>true
 |_=>false
def jur:j0i C1.P .eql 149 x y nilP nilP=some (bv true):=by kernel_rfl
def jus:j0i C1.P .neq 149 x y nilP nilP=some (bv false):=by kernel_rfl
def jsc:j0i C1.P .eql 149 x y (.cp cs) nilP=some (bv false):=by kernel_rfl
def jsd:j0i C1.P .neq 149 x y (.cp cs) nilP=some (bv true):=by kernel_rfl
def jqY(op:BinOp)(b:Bool)(K:PV→Prop):Prop:=match op with
 | .eql=>K (bv b)
 | .neq=>K (bv (!b))
 |_=>False
def j3V(h:jqY op t.isNil K):VRes (j0i C1.P op 149 x y (encR t) nilP) K:=by
 cases op with
 |eql=>cases t with
  |nil=>exact⟨_,jur,h⟩
  |nd s n l r d q=>exact⟨_,jsc,h⟩
 |neq=>cases t with
  |nil=>exact⟨_,jus,h⟩
  |nd s n l r d q=>exact⟨_,jsd,h⟩
 |_=>exact h.elim
def j4B(t:Tr):Pf C1 306 [encR t] [iv t.deep]:=by
 cases t with
 |nil=>
  refine gR Tryz.func306 ?_;repeat'(first|refine gU ?_|refine j3V (t:=.nil) ?_)<;>conv=>whnf
  all_goals rfl
 |nd s n l r d q=>
  refine gR Tryz.func306 ?_;repeat'(first|refine gU ?_|refine j3V (t:=.nd s n l r d q) ?_)<;>conv=>whnf
  all_goals rfl
def jdR(t:Tr):Pf C1 307 [encR t] [iv t.count]:=by
 cases t with
 |nil=>
  refine gR Tryz.func307 ?_;repeat'(first|refine gU ?_|refine j3V (t:=.nil) ?_)<;>conv=>whnf
  all_goals rfl
 |nd s n l r d q=>
  refine gR Tryz.func307 ?_;repeat'(first|refine gU ?_|refine j3V (t:=.nd s n l r d q) ?_)<;>conv=>whnf
  all_goals rfl
def Tr.ok.bd(h:t.ok m):0≤t.deep∧t.deep≤m∧0≤t.count∧t.count≤m:=by
 cases t with
 |nil=>simp[Tr.deep,Tr.count]
 |nd s n l r d q=>obtain⟨-,-,h1,h2,h3,h4⟩:=h;exact⟨h1,h2,h3,h4⟩
def j1r(t:Tr):t=.nil∨∃cs,encR t=.cp cs:=by
 cases t with
 |nil=>exact .inl rfl
 |nd s n l r d q=>exact .inr ⟨_,rfl⟩
def jci(s:List UInt8)(n:Int)(l r:Tr)(m:Nat)(hm:m≤1000000)(qA:l.ok m)(hA:r.ok m):Pf C1 269 [sv s,iv n,encR l,encR r] [encR (j0c s n l r)]:=by
 have h1:=j4B l;have h2:=j4B r;have h3:=jdR l;have h4:=jdR r;obtain⟨a1,a2,a3,a4⟩:=qA.bd;obtain⟨b1,b2,b3,b4⟩:=hA.bd;have e:encR (j0c s n l r)=.cp [sv s,iv n,encR l,encR r,iv ((if r.deep>l.deep then r.deep else l.deep)+1),iv (l.count+r.count+1)]:=rfl
 rw[e];clear e;have gA:0≤(if r.deep>l.deep then r.deep else l.deep)∧(if r.deep>l.deep then r.deep else l.deep)≤m:=by split<;>omega
 rcases j1r l with hl|⟨cl,hl⟩<;>rcases j1r r with hr|⟨cr,hr⟩
 ·subst hl;subst hr;refine gR Tryz.func269 ?_;repeat'(first|refine gU ?_|refine gX h1 ?_|refine gX h3 ?_)<;>conv=>whnf
  exact j0m rfl rfl rfl rfl
 ·subst hl;rw[hr] at h2 h4⊢;refine gR Tryz.func269 ?_;repeat'(first|refine gU ?_|refine gX h1 ?_|refine gX h2 ?_|refine gX h3 ?_|refine gX h4 ?_)<;>conv=>whnf
  exact j0m rfl rfl rfl rfl
 ·subst hr;rw[hl] at h1 h3⊢;refine gR Tryz.func269 ?_;repeat'(first|refine gU ?_|refine gX h1 ?_|refine gX h2 ?_|refine gX h3 ?_|refine gX h4 ?_)<;>conv=>whnf
  exact j0m rfl rfl rfl rfl
 ·rw[hl] at h1 h3⊢;rw[hr] at h2 h4⊢;refine gR Tryz.func269 ?_;repeat'(first|refine gU ?_|refine gX h1 ?_|refine gX h2 ?_|refine gX h3 ?_|refine gX h4 ?_)<;>conv=>whnf
  exact j0m rfl rfl rfl rfl
def ptr(v:PV):Prop:=v=nilP∨∃cs,v=.cp cs
def j0Z(t:Tr):ptr (encR t):=by
 cases t with
 |nil=>exact .inl rfl
 |nd s n l r d q=>exact .inr ⟨_,rfl⟩
def ptr.pure(h:ptr v):∀n,pur (n+1) v=true:=by
 rcases h with rfl|⟨cs,rfl⟩<;>intro n<;>rfl
def j4m(s:List UInt8)(n:Int)(l r:Tr):encR (j0c s n l r)=.cp [sv s,iv n,encR l,encR r,iv ((if r.deep>l.deep then r.deep else l.deep)+1),iv (l.count+r.count+1)]:=rfl
def j3G(s:List UInt8)(n:Int)(l0 r0:Tr)(d q:Int)(l r:Tr)(m:Nat)(hm:m≤1000000)(qA:l.ok m)(hA:r.ok m):Pf C1 270 [encR (.nd s n l0 r0 d q),encR l,encR r] [encR (j0c s n l r)]:=by
 have hj:=jci s n l r m hm qA hA;have e:encR (.nd s n l0 r0 d q)=.cp [sv s,iv n,encR l0,encR r0,iv d,iv q]:=rfl;rw[e];rw[j4m] at hj⊢;have e1:=j0Z l;have e2:=j0Z r;generalize encR l=wl at *;generalize encR r=wr at *;generalize encR l0=wl0 at *;generalize encR r0=wr0 at *;rcases e1 with rfl|⟨c1,rfl⟩<;>rcases e2 with rfl|⟨c2,rfl⟩
 all_goals
  refine gR Tryz.func270 ?_;repeat'(first|refine gU ?_|refine j01 hj fun _=>?_|apply gK)<;>conv=>whnf
  rfl
def j4D{s:List UInt8}{n:Int}{l r:Tr}(qA:l.ok m)(hA:r.ok m):(j0c s n l r).ok (2*m+1):=by
 have up:∀{t:Tr}{m k:Nat},m≤k→t.ok m→t.ok k:=by
  intro t m k hk
  induction t with
  |nil=>intro _;trivial
  |nd s n l r d q ihl ihr=>
   rintro⟨h1,h2,h3,h4,h5,h6⟩;exact⟨ihl h1,ihr h2,h3,by omega,h5,by omega⟩
 obtain⟨a1,a2,a3,a4⟩:=qA.bd;obtain⟨b1,b2,b3,b4⟩:=hA.bd;have gA:0≤(if r.deep>l.deep then r.deep else l.deep)∧(if r.deep>l.deep then r.deep else l.deep)≤m:=by split<;>omega
 exact⟨up (by omega) qA,up (by omega) hA,by omega,by omega,by omega,by omega⟩
def Tr.ok.up{k:Nat}(hk:m≤k):t.ok m→t.ok k:=by
 induction t with
 |nil=>intro _;trivial
 |nd s n l r d q ihl ihr=>
  rintro⟨h1,h2,h3,h4,h5,h6⟩;exact⟨ihl h1,ihr h2,h3,by omega,h5,by omega⟩
def j3F:Tr→Tr
 | .nd s n (.nd s1 n1 a b _ _) c _ _=>j0c s1 n1 a (j0c s n b c)
 |t=>t
def j3E:Tr→Tr
 | .nd s n a (.nd s1 n1 b c _ _) _ _=>j0c s1 n1 (j0c s n a b) c
 |t=>t
def jck(s:List UInt8)(n:Int)(s1:List UInt8)(n1:Int)(a b:Tr)(d1 q1:Int)(c:Tr)(d q:Int)(m:Nat)(hm:m≤100000)(ha:a.ok m)(hb:b.ok m)(hc:c.ok m):Pf C1 309 [encR (.nd s n (.nd s1 n1 a b d1 q1) c d q)] [encR (j3F (.nd s n (.nd s1 n1 a b d1 q1) c d q))]:=by
 have h1:=j3G s n (.nd s1 n1 a b d1 q1) c d q b c m (by omega) hb hc
 have h2:=j3G s1 n1 a b d1 q1 a (j0c s n b c) (2*m+1) (by omega) (ha.up (by omega)) (j4D hb hc)
 have e:encR (.nd s n (.nd s1 n1 a b d1 q1) c d q)=.cp [sv s,iv n,.cp [sv s1,iv n1,encR a,encR b,iv d1,iv q1],encR c,iv d,iv q]:=rfl;have e':encR (.nd s1 n1 a b d1 q1)=.cp [sv s1,iv n1,encR a,encR b,iv d1,iv q1]:=rfl;rw[e] at h1⊢;rw[e'] at h2;simp only[j3F];rw[j4m s1] at h2⊢;rw[j4m s n b c] at h1 h2⊢;have e1:=j0Z a;have e2:=j0Z b;have e3:=j0Z c;generalize encR a=wa at *;generalize encR b=wb at *;generalize encR c=wc at *;rcases e1 with rfl|⟨c1,rfl⟩<;>rcases e2 with rfl|⟨c2,rfl⟩<;>rcases e3 with rfl|⟨c3,rfl⟩
 all_goals
  refine gR Tryz.func309 ?_;repeat'(first|refine gU ?_|refine j01 h1 fun _=>?_|refine j01 h2 fun _=>?_|apply gK)<;>conv=>whnf
  rfl
def jcj(s:List UInt8)(n:Int)(a:Tr)(s1:List UInt8)(n1:Int)(b c:Tr)(d1 q1:Int)(d q:Int)(m:Nat)(hm:m≤100000)(ha:a.ok m)(hb:b.ok m)(hc:c.ok m):Pf C1 308 [encR (.nd s n a (.nd s1 n1 b c d1 q1) d q)] [encR (j3E (.nd s n a (.nd s1 n1 b c d1 q1) d q))]:=by
 have h1:=j3G s n a (.nd s1 n1 b c d1 q1) d q a b m (by omega) ha hb
 have h2:=j3G s1 n1 b c d1 q1 (j0c s n a b) c (2*m+1) (by omega) (j4D ha hb) (hc.up (by omega))
 have e:encR (.nd s n a (.nd s1 n1 b c d1 q1) d q)=.cp [sv s,iv n,encR a,.cp [sv s1,iv n1,encR b,encR c,iv d1,iv q1],iv d,iv q]:=rfl;have e':encR (.nd s1 n1 b c d1 q1)=.cp [sv s1,iv n1,encR b,encR c,iv d1,iv q1]:=rfl;rw[e] at h1⊢;rw[e'] at h2;simp only[j3E];rw[j4m s1] at h2⊢;rw[j4m s n a b] at h1 h2⊢;have e1:=j0Z a;have e2:=j0Z b;have e3:=j0Z c;generalize encR a=wa at *;generalize encR b=wb at *;generalize encR c=wc at *;rcases e1 with rfl|⟨c1,rfl⟩<;>rcases e2 with rfl|⟨c2,rfl⟩<;>rcases e3 with rfl|⟨c3,rfl⟩
 all_goals
  refine gR Tryz.func308 ?_;repeat'(first|refine gU ?_|refine j01 h1 fun _=>?_|refine j01 h2 fun _=>?_|apply gK)<;>conv=>whnf
  rfl
def jay(s:List UInt8):Tr→Tr
 | .nil=>.nil
 | .nd s1 n l r d q=>if s1=s then .nd s1 n l r d q else if Op.bytesLess s s1=true then jay s l else jay s r
def Tr.size:Tr→Nat
 | .nil=>0
 | .nd _ _ l r _ _=>l.size+r.size+1
def jqo(s:List UInt8)(t:Tr):Pf C1 127 [encR t,sv s] [encR (jay s t)]:=by
 refine gR Tryz.func127 ?_;all_goals try conv=>whnf
 refine j04 (G:=Tr) (fun g=>[(0,encR g)]) (fun _=>_) (fun g=>jay s g=jay s t) (fun g=>g.size) t rfl rfl rfl ?_
 intro g hg;cases g with
 |nil=>
  rw[←hg];repeat'(first|refine gU ?_|refine j3V (t:=.nil) ?_)<;>conv=>whnf
  all_goals rfl
 |nd s1 n l r d q=>
  rw[jay] at hg;have e:encR (.nd s1 n l r d q)=.cp [sv s1,iv n,encR l,encR r,iv d,iv q]:=rfl;rw[e];repeat'(first|refine gU ?_|apply gM<;>intro h|refine j3V (t:=.nd s1 n l r d q) ?_|refine j7h ?_)<;>conv=>whnf
  ·have hs:s1=s:=by simpa using(by assumption:(s1 == s)=true)
   rw[if_pos hs] at hg;rw[←hg,e]
  ·have hs:¬s1=s:=by simpa using(by assumption:(s1 == s)=false)
   rw[if_neg hs,if_pos (by assumption)] at hg
   exact VAgain.mk _ rfl _ (j1a rfl) ⟨l,hg,by simp only[Tr.size];omega,rfl⟩
  ·have hs:¬s1=s:=by simpa using(by assumption:(s1 == s)=false)
   rw[if_neg hs,if_neg (by simp only[(by assumption:Op.bytesLess s s1=false)];simp)] at hg
   exact VAgain.mk _ rfl _ (j1a rfl) ⟨r,hg,by simp only[Tr.size];omega,rfl⟩
def getR(s:List UInt8)(t:Tr):Option Int:=match jay s t with
 | .nil=>none
 | .nd _ n _ _ _ _=>some n
def j9c(t:Tr):PV:=.cp [encR t]
def getV(o:Option Int):List PV:=match o with
 |none=>[iv 0,bv false]
 |some n=>[iv n,bv true]
def jhw(s:List UInt8)(t:Tr):Pf C1 79 [j9c t,sv s] (getV (getR s t)):=by
 have hf:=jqo s t;have e1:=j0Z t;unfold getR j9c;generalize encR t=w at *;cases hF:jay s t with
 |nil=>
  rw[hF] at hf;rcases e1 with rfl|⟨c1,rfl⟩
  all_goals
   refine gR Tryz.func79 ?_;repeat'(first|refine gU ?_|refine gX hf ?_|refine j3V (t:=.nil) ?_)<;>conv=>whnf
   rfl
 |nd s1 n l r d q=>
  rw[hF] at hf;rcases e1 with rfl|⟨c1,rfl⟩
  all_goals
   refine gR Tryz.func79 ?_;repeat'(first|refine gU ?_|refine gX hf ?_|refine j3V (t:=.nd s1 n l r d q) ?_)<;>conv=>whnf
   rfl
open Go Go.Am Go.Gw
def Tr.lt:Tr→Tr
 | .nil=>.nil
 | .nd _ _ l _ _ _=>l
def Tr.rt:Tr→Tr
 | .nil=>.nil
 | .nd _ _ _ r _ _=>r
def jcN:Tr→Tr
 | .nil=>.nil
 | .nd s n l r d q=>if l.deep-r.deep=2 then j3F (if l.lt.deep<l.rt.deep then j0c s n (j3E l) r else .nd s n l r d q)
  else if l.deep-r.deep = -2 then j3E (if r.rt.deep<r.lt.deep then j0c s n l (j3F r) else .nd s n l r d q) else .nd s n l r d q
def jaI(h:0<t.deep):∃s n l r d q,t=.nd s n l r d q:=by
 cases t with
 |nil=>simp[Tr.deep] at h
 |nd s n l r d q=>exact⟨_,_,_,_,_,_,rfl⟩
def jjC(s:List UInt8)(n:Int)(l r:Tr)(d q:Int)(m:Nat)(hm:m≤10000)(ho:(Tr.nd s n l r d q).ok m):Pf C1 271 [encR (.nd s n l r d q)] [encR (jcN (.nd s n l r d q))]:=by
 obtain⟨qB,hB,-⟩:=ho;have gD:=qB.bd;have qD:=hB.bd;have hl:=j4B l;have hr:=j4B r;rw[jcN]
 by_cases c1:l.deep-r.deep=2
 ·rw[if_pos c1];obtain⟨s1,n1,a,b,d1,q1,rfl⟩:=jaI (t:=l) (by omega)
  have ha:=j4B a;have hb:=j4B b;obtain⟨hC,gB,-⟩:=qB
  by_cases c2:a.deep<b.deep
  ·rw[if_pos (show(Tr.nd s1 n1 a b d1 q1).lt.deep<(Tr.nd s1 n1 a b d1 q1).rt.deep from c2)]
   have hE:=hC.bd;obtain⟨s2,n2,b1,b2,d2,q2,rfl⟩:=jaI (t:=b) (by omega)
   obtain⟨qA,hA,-⟩:=gB;have ht:=jcj s1 n1 a s2 n2 b1 b2 d2 q2 d1 q1 m (by omega) hC qA hA
   have hx1:=j4D (s:=s1) (n:=n1) hC qA;have qC:=j4D (s:=s2) (n:=n2) hx1 (hA.up (by omega))
   have hw:=j3G s n (.nd s1 n1 a (.nd s2 n2 b1 b2 d2 q2) d1 q1) r d q (j0c s2 n2 (j0c s1 n1 a b1) b2) r _ (by omega) qC (hB.up (by omega))
   have hT:=jck s n s2 n2 (j0c s1 n1 a b1) b2 (d1:=(j0c s2 n2 (j0c s1 n1 a b1) b2).deep) (q1:=(j0c s2 n2 (j0c s1 n1 a b1) b2).count) (c:=r) (d:=(j0c s n (j0c s2 n2 (j0c s1 n1 a b1) b2) r).deep) (q:=(j0c s n (j0c s2 n2 (j0c s1 n1 a b1) b2) r).count) (m:=2*m+1) (by omega) hx1 (hA.up (by omega)) (hB.up (by omega))
   have e0:j3E (.nd s1 n1 a (.nd s2 n2 b1 b2 d2 q2) d1 q1)=j0c s2 n2 (j0c s1 n1 a b1) b2:=rfl;have e3:Tr.nd s n (Tr.nd s2 n2 (j0c s1 n1 a b1) b2 (j0c s2 n2 (j0c s1 n1 a b1) b2).deep (j0c s2 n2 (j0c s1 n1 a b1) b2).count) r (j0c s n (j0c s2 n2 (j0c s1 n1 a b1) b2) r).deep (j0c s n (j0c s2 n2 (j0c s1 n1 a b1) b2) r).count=j0c s n (j0c s2 n2 (j0c s1 n1 a b1) b2) r:=rfl;rw[e3] at hT;rw[e0] at ht⊢;have e5:=j0Z (j3F (j0c s n (j0c s2 n2 (j0c s1 n1 a b1) b2) r));generalize encR (j3F (j0c s n (j0c s2 n2 (j0c s1 n1 a b1) b2) r))=out at *;have e6:encR (j0c s n (j0c s2 n2 (j0c s1 n1 a b1) b2) r)=.cp [sv s,iv n,encR (j0c s2 n2 (j0c s1 n1 a b1) b2),encR r,iv ((if r.deep>(j0c s2 n2 (j0c s1 n1 a b1) b2).deep then r.deep else(j0c s2 n2 (j0c s1 n1 a b1) b2).deep)+1),iv ((j0c s2 n2 (j0c s1 n1 a b1) b2).count+r.count+1)]:=rfl
   have e7:encR (j0c s2 n2 (j0c s1 n1 a b1) b2)=.cp [sv s2,iv n2,encR (j0c s1 n1 a b1),encR b2,iv ((if b2.deep>(j0c s1 n1 a b1).deep then b2.deep else(j0c s1 n1 a b1).deep)+1),iv ((j0c s1 n1 a b1).count+b2.count+1)]:=rfl
   rw[e6] at hw hT;rw[e7] at ht hw hT;clear e6 e7 e3 e0;have e:encR (Tr.nd s n (Tr.nd s1 n1 a (Tr.nd s2 n2 b1 b2 d2 q2) d1 q1) r d q)=.cp [sv s,iv n,.cp [sv s1,iv n1,encR a,.cp [sv s2,iv n2,encR b1,encR b2,iv d2,iv q2],iv d1,iv q1],encR r,iv d,iv q]:=rfl;have e1:encR (Tr.nd s1 n1 a (Tr.nd s2 n2 b1 b2 d2 q2) d1 q1)=.cp [sv s1,iv n1,encR a,.cp [sv s2,iv n2,encR b1,encR b2,iv d2,iv q2],iv d1,iv q1]:=rfl;have e2:encR (Tr.nd s2 n2 b1 b2 d2 q2)=.cp [sv s2,iv n2,encR b1,encR b2,iv d2,iv q2]:=rfl;rw[e] at hw⊢;rw[e1] at hl ht;rw[e2] at hb;clear e e1 e2;have fa:=j1r a;have fr:=j1r r;generalize hD:encR a=wa at *;generalize gA:encR r=wr at *;rcases e5 with rfl|⟨co,rfl⟩<;>rcases fa with rfl|⟨ca,rfl⟩<;>rcases fr with rfl|⟨cr,rfl⟩<;>(try subst hD)<;>(try subst gA)
   all_goals
    refine gR Tryz.func271 ?_;repeat'(first|refine gU ?_|refine j01 hl fun _=>?_|refine j01 hr fun _=>?_|refine j01 ha fun _=>?_|refine j01 hb fun _=>?_|refine j01 ht fun _=>?_|refine j01 hw fun _=>?_|refine gX hT ?_|apply gK)<;>conv=>whnf
    rfl
  ·rw[if_neg (show ¬(Tr.nd s1 n1 a b d1 q1).lt.deep<(Tr.nd s1 n1 a b d1 q1).rt.deep from c2)]
   have hT:=jck s n s1 n1 a b d1 q1 r d q m (by omega) hC gB hB
   have e5:=j0Z (j3F (.nd s n (.nd s1 n1 a b d1 q1) r d q));generalize encR (j3F (.nd s n (.nd s1 n1 a b d1 q1) r d q))=out at *;have e:encR (Tr.nd s n (Tr.nd s1 n1 a b d1 q1) r d q)=.cp [sv s,iv n,.cp [sv s1,iv n1,encR a,encR b,iv d1,iv q1],encR r,iv d,iv q]:=rfl;have e1:encR (Tr.nd s1 n1 a b d1 q1)=.cp [sv s1,iv n1,encR a,encR b,iv d1,iv q1]:=rfl;rw[e] at hT⊢;rw[e1] at hl;clear e e1;have fa:=j1r a;have fb:=j1r b;have fr:=j1r r;generalize hD:encR a=wa at *;generalize wC:encR b=wb at *;generalize gA:encR r=wr at *;rcases e5 with rfl|⟨co,rfl⟩<;>rcases fa with rfl|⟨ca,rfl⟩<;>rcases fb with rfl|⟨cb,rfl⟩<;>rcases fr with rfl|⟨cr,rfl⟩<;>(try subst hD)<;>(try subst wC)<;>(try subst gA)
   all_goals
    refine gR Tryz.func271 ?_;repeat'(first|refine gU ?_|refine j01 hl fun _=>?_|refine j01 hr fun _=>?_|refine j01 ha fun _=>?_|refine j01 hb fun _=>?_|refine gX hT ?_|apply gK)<;>conv=>whnf
    rfl
 ·rw[if_neg c1]
  by_cases c2:l.deep-r.deep = -2
  ·rw[if_pos c2];obtain⟨s1,n1,b,c,d1,q1,rfl⟩:=jaI (t:=r) (by omega)
   have hb:=j4B b;have hc:=j4B c;obtain⟨gB,wB,-⟩:=hB
   by_cases c3:c.deep<b.deep
   ·rw[if_pos (show(Tr.nd s1 n1 b c d1 q1).rt.deep<(Tr.nd s1 n1 b c d1 q1).lt.deep from c3)]
    have wD:=wB.bd;obtain⟨s2,n2,b1,b2,d2,q2,rfl⟩:=jaI (t:=b) (by omega)
    obtain⟨qA,hA,-⟩:=gB;have ht:=jck s1 n1 s2 n2 b1 b2 d2 q2 c d1 q1 m (by omega) qA hA wB
    have hx1:=j4D (s:=s1) (n:=n1) hA wB;have qC:=j4D (s:=s2) (n:=n2) (qA.up (by omega)) hx1
    have hw:=j3G s n l (.nd s1 n1 (.nd s2 n2 b1 b2 d2 q2) c d1 q1) d q l (j0c s2 n2 b1 (j0c s1 n1 b2 c)) _ (by omega) (qB.up (by omega)) qC
    have hT:=jcj s n l s2 n2 b1 (j0c s1 n1 b2 c) (d1:=(j0c s2 n2 b1 (j0c s1 n1 b2 c)).deep) (q1:=(j0c s2 n2 b1 (j0c s1 n1 b2 c)).count) (d:=(j0c s n l (j0c s2 n2 b1 (j0c s1 n1 b2 c))).deep) (q:=(j0c s n l (j0c s2 n2 b1 (j0c s1 n1 b2 c))).count) (m:=2*m+1) (by omega) (qB.up (by omega)) (qA.up (by omega)) hx1
    have e0:j3F (.nd s1 n1 (.nd s2 n2 b1 b2 d2 q2) c d1 q1)=j0c s2 n2 b1 (j0c s1 n1 b2 c):=rfl;have e3:Tr.nd s n l (Tr.nd s2 n2 b1 (j0c s1 n1 b2 c) (j0c s2 n2 b1 (j0c s1 n1 b2 c)).deep (j0c s2 n2 b1 (j0c s1 n1 b2 c)).count) (j0c s n l (j0c s2 n2 b1 (j0c s1 n1 b2 c))).deep (j0c s n l (j0c s2 n2 b1 (j0c s1 n1 b2 c))).count=j0c s n l (j0c s2 n2 b1 (j0c s1 n1 b2 c)):=rfl;rw[e3] at hT;rw[e0] at ht⊢;have e5:=j0Z (j3E (j0c s n l (j0c s2 n2 b1 (j0c s1 n1 b2 c))));generalize encR (j3E (j0c s n l (j0c s2 n2 b1 (j0c s1 n1 b2 c))))=out at *;have e6:encR (j0c s n l (j0c s2 n2 b1 (j0c s1 n1 b2 c)))=.cp [sv s,iv n,encR l,encR (j0c s2 n2 b1 (j0c s1 n1 b2 c)),iv ((if(j0c s2 n2 b1 (j0c s1 n1 b2 c)).deep>l.deep then(j0c s2 n2 b1 (j0c s1 n1 b2 c)).deep else l.deep)+1),iv (l.count+(j0c s2 n2 b1 (j0c s1 n1 b2 c)).count+1)]:=rfl
    have e7:encR (j0c s2 n2 b1 (j0c s1 n1 b2 c))=.cp [sv s2,iv n2,encR b1,encR (j0c s1 n1 b2 c),iv ((if(j0c s1 n1 b2 c).deep>b1.deep then(j0c s1 n1 b2 c).deep else b1.deep)+1),iv (b1.count+(j0c s1 n1 b2 c).count+1)]:=rfl
    rw[e6] at hw hT;rw[e7] at ht hw hT;clear e6 e7 e3 e0;have e:encR (Tr.nd s n l (Tr.nd s1 n1 (Tr.nd s2 n2 b1 b2 d2 q2) c d1 q1) d q)=.cp [sv s,iv n,encR l,.cp [sv s1,iv n1,.cp [sv s2,iv n2,encR b1,encR b2,iv d2,iv q2],encR c,iv d1,iv q1],iv d,iv q]:=rfl;have e1:encR (Tr.nd s1 n1 (Tr.nd s2 n2 b1 b2 d2 q2) c d1 q1)=.cp [sv s1,iv n1,.cp [sv s2,iv n2,encR b1,encR b2,iv d2,iv q2],encR c,iv d1,iv q1]:=rfl;have e2:encR (Tr.nd s2 n2 b1 b2 d2 q2)=.cp [sv s2,iv n2,encR b1,encR b2,iv d2,iv q2]:=rfl;rw[e] at hw⊢;rw[e1] at hr ht;rw[e2] at hb;clear e e1 e2;have fc:=j1r c;have fl:=j1r l;generalize gC:encR c=wc at *;generalize wA:encR l=wl at *;rcases e5 with rfl|⟨co,rfl⟩<;>rcases fc with rfl|⟨cc,rfl⟩<;>rcases fl with rfl|⟨cl,rfl⟩<;>(try subst gC)<;>(try subst wA)
    all_goals
     refine gR Tryz.func271 ?_;repeat'(first|refine gU ?_|refine j01 hl fun _=>?_|refine j01 hr fun _=>?_|refine j01 hc fun _=>?_|refine j01 hb fun _=>?_|refine j01 ht fun _=>?_|refine j01 hw fun _=>?_|refine gX hT ?_|apply gK)<;>conv=>whnf
     rfl
   ·rw[if_neg (show ¬(Tr.nd s1 n1 b c d1 q1).rt.deep<(Tr.nd s1 n1 b c d1 q1).lt.deep from c3)]
    have hT:=jcj s n l s1 n1 b c d1 q1 d q m (by omega) qB gB wB
    have e5:=j0Z (j3E (.nd s n l (.nd s1 n1 b c d1 q1) d q));generalize encR (j3E (.nd s n l (.nd s1 n1 b c d1 q1) d q))=out at *;have e:encR (Tr.nd s n l (Tr.nd s1 n1 b c d1 q1) d q)=.cp [sv s,iv n,encR l,.cp [sv s1,iv n1,encR b,encR c,iv d1,iv q1],iv d,iv q]:=rfl;have e1:encR (Tr.nd s1 n1 b c d1 q1)=.cp [sv s1,iv n1,encR b,encR c,iv d1,iv q1]:=rfl;rw[e] at hT⊢;rw[e1] at hr;clear e e1;have fb:=j1r b;have fc:=j1r c;have fl:=j1r l;generalize wC:encR b=wb at *;generalize gC:encR c=wc at *;generalize wA:encR l=wl at *;rcases e5 with rfl|⟨co,rfl⟩<;>rcases fb with rfl|⟨cb,rfl⟩<;>rcases fc with rfl|⟨cc,rfl⟩<;>rcases fl with rfl|⟨cl,rfl⟩<;>(try subst wC)<;>(try subst gC)<;>(try subst wA)
    all_goals
     refine gR Tryz.func271 ?_;repeat'(first|refine gU ?_|refine j01 hl fun _=>?_|refine j01 hr fun _=>?_|refine j01 hb fun _=>?_|refine j01 hc fun _=>?_|refine gX hT ?_|apply gK)<;>conv=>whnf
     rfl
  ·rw[if_neg c2];have e:encR (.nd s n l r d q)=.cp [sv s,iv n,encR l,encR r,iv d,iv q]:=rfl;rw[e];have fl:=j1r l;have fr:=j1r r;generalize wA:encR l=wl at *;generalize gA:encR r=wr at *;rcases fl with rfl|⟨cl,rfl⟩<;>rcases fr with rfl|⟨cr,rfl⟩<;>(try subst wA)<;>(try subst gA)
   all_goals
    refine gR Tryz.func271 ?_;repeat'(first|refine gU ?_|refine j01 hl fun _=>?_|refine j01 hr fun _=>?_|apply gK)<;>conv=>whnf
open Go Go.Am Go.Gw
def jj6(h:jqY op false K):VRes (j0i C1.P op 149 x y (.cp cs) nilP) K:=by
 cases op with
 |eql=>exact⟨_,jsc,h⟩
 |neq=>exact⟨_,jsd,h⟩
 |_=>exact h.elim
def putR(s:List UInt8)(n:Int):Tr→Tr
 | .nil=>j0c s n .nil .nil
 | .nd s1 n1 l r _ _=>if Op.bytesLess s s1=true then jcN (j0c s1 n1 (putR s n l) r) else if(!(Op.bytesLess s s1||s == s1))=true then jcN (j0c s1 n1 l (putR s n r)) else j0c s n l r
def jf7(s:List UInt8)(n:Int):Tr→Prop
 | .nil=>True
 | .nd _ _ l r _ _=>l.ok 4000∧r.ok 4000∧(putR s n l).ok 4000∧(putR s n r).ok 4000∧jf7 s n l∧jf7 s n r
def jts(s:List UInt8)(n:Int)(t:Tr):jf7 s n t→Pf C1 231 [encR t,sv s,iv n] [encR (putR s n t)]:=by
 induction t with
 |nil=>
  intro _;have hj:=jci s n .nil .nil 0 (by omega) trivial trivial
  refine gR Tryz.func231 ?_;repeat'(first|refine gU ?_|refine j3V (t:=.nil) ?_|refine gX hj ?_)<;>conv=>whnf
  rfl
 |nd s1 n1 l r d q ihl ihr=>
  rintro⟨qA,hA,wA,gA,qB,hB⟩;have hl:=ihl qB;have hr:=ihr hB;have w1:=j3G s1 n1 l r d q (putR s n l) r 4000 (by omega) wA hA
  have w2:=j3G s1 n1 l r d q l (putR s n r) 4000 (by omega) qA gA
  have v1:=jjC s1 n1 (putR s n l) r (j0c s1 n1 (putR s n l) r).deep (j0c s1 n1 (putR s n l) r).count 8001 (by omega) (j4D (s:=s1) (n:=n1) wA hA)
  have v2:=jjC s1 n1 l (putR s n r) (j0c s1 n1 l (putR s n r)).deep (j0c s1 n1 l (putR s n r)).count 8001 (by omega) (j4D (s:=s1) (n:=n1) qA gA)
  have hj:=jci s n l r 4000 (by omega) qA hA
  have e1:Tr.nd s1 n1 (putR s n l) r (j0c s1 n1 (putR s n l) r).deep (j0c s1 n1 (putR s n l) r).count=j0c s1 n1 (putR s n l) r:=rfl;have e2:Tr.nd s1 n1 l (putR s n r) (j0c s1 n1 l (putR s n r)).deep (j0c s1 n1 l (putR s n r)).count=j0c s1 n1 l (putR s n r):=rfl;rw[e1] at v1;rw[e2] at v2;clear e1 e2;rw[putR];have e:encR (.nd s1 n1 l r d q)=.cp [sv s1,iv n1,encR l,encR r,iv d,iv q]:=rfl;rw[e] at w1 w2⊢;rw[j4m] at w1 v1 w2 v2 hj;have fl:=j0Z l;have fr:=j0Z r
  by_cases c1:Op.bytesLess s s1=true
  ·rw[if_pos c1];have fp:=j0Z (putR s n l);have fo:=j0Z (jcN (j0c s1 n1 (putR s n l) r));generalize encR (jcN (j0c s1 n1 (putR s n l) r))=out at *;generalize encR (putR s n l)=wp at *;generalize encR l=wl at *;generalize encR r=wr at *;rcases fl with rfl|⟨cl,rfl⟩<;>rcases fr with rfl|⟨cr,rfl⟩<;>rcases fp with rfl|⟨cp,rfl⟩<;>rcases fo with rfl|⟨co,rfl⟩
   all_goals
    refine gR Tryz.func231 ?_;repeat'(first|refine gU ?_|refine jj6 ?_|refine j7h ?_|refine j01 hl fun _=>?_|refine j01 w1 fun _=>?_|refine j01 v1 fun _=>?_|apply gK)<;>conv=>whnf
    all_goals first|rfl|(exfalso;simp_all;done)
  ·rw[if_neg c1]
   by_cases c2:(!(Op.bytesLess s s1||s == s1))=true
   ·rw[if_pos c2];have fp:=j0Z (putR s n r);have fo:=j0Z (jcN (j0c s1 n1 l (putR s n r)));generalize encR (jcN (j0c s1 n1 l (putR s n r)))=out at *;generalize encR (putR s n r)=wp at *;generalize encR l=wl at *;generalize encR r=wr at *;rcases fl with rfl|⟨cl,rfl⟩<;>rcases fr with rfl|⟨cr,rfl⟩<;>rcases fp with rfl|⟨cp,rfl⟩<;>rcases fo with rfl|⟨co,rfl⟩
    all_goals
     refine gR Tryz.func231 ?_;repeat'(first|refine gU ?_|apply gM<;>intro h|refine jj6 ?_|refine j7h ?_|refine j01 hr fun _=>?_|refine j01 w2 fun _=>?_|refine j01 v2 fun _=>?_|apply gK)<;>conv=>whnf
     all_goals first|rfl|(exfalso;simp_all;done)
   ·rw[if_neg c2];rw[j4m];generalize encR l=wl at *;generalize encR r=wr at *;rcases fl with rfl|⟨cl,rfl⟩<;>rcases fr with rfl|⟨cr,rfl⟩
    all_goals
     refine gR Tryz.func231 ?_;repeat'(first|refine gU ?_|apply gM<;>intro h|refine jj6 ?_|refine j7h ?_|refine j01 hj fun _=>?_|apply gK)<;>conv=>whnf
     all_goals first|rfl|(exfalso;simp_all;done)
def jsz(s:List UInt8)(n:Int)(t:Tr)(h:jf7 s n t):Pf C1 174 [j9c t,sv s,iv n] [j9c (putR s n t)]:=by
 have hp:=jts s n t h;unfold j9c;have e1:=j0Z t;have e2:=j0Z (putR s n t);generalize encR (putR s n t)=v at *;generalize encR t=w at *;rcases e1 with rfl|⟨c1,rfl⟩<;>rcases e2 with rfl|⟨c2,rfl⟩
 all_goals
  refine gR Tryz.func174 ?_;repeat'(first|refine gX hp ?_)<;>conv=>whnf
  exact j0m rfl rfl rfl rfl
def jiV:Pf C1 104 [] [j9c .nil]:=by
 refine gR Tryz.func104 ?_;all_goals try conv=>whnf
 exact j0m rfl rfl rfl rfl
open Go Go.Am Go.Gw
structure En where
 kind:Int
 pars:Int
 nm:List UInt8
 ty:Tm
 val:Tm
 ht:Int
 fam:List UInt8
 fixd:Int
 idx:Int
 flds:Int
 ctors:List (List UInt8)
def EnP(e:En)(v:PV):Prop:=∃tk tn ts tb tz txs tc ty tys vk vn vs vb vz vxs vc vy vys b z,v=.ag [iv e.kind,iv e.pars,sv e.nm,iv tk,iv tn,sv ts,.sl tb tz txs,.sl tc ty tys,iv vk,iv vn,sv vs,.sl vb vz vxs,.sl vc vy vys,iv e.ht,sv e.fam,iv e.fixd,iv e.idx,iv e.flds,.sl b z (svs e.ctors)]
 ∧TmP e.ty (.ag [iv tk,iv tn,sv ts,.sl tb tz txs,.sl tc ty tys])∧TmP e.val (.ag [iv vk,iv vn,sv vs,.sl vb vz vxs,.sl vc vy vys])∧((z=1∧e.ctors≠[])∨(e.ctors=[]∧b=true∧z=0))∧e.nm.length≤140737488355328∧e.fam.length≤140737488355328∧e.ctors.length≤1000000∧∀s∈e.ctors,s.length≤140737488355328
def j3D(n a b:Int):Bool:=decide (a≤n)&&decide (n≤b)
def j7y(n a b:Int):Pf C1 125 [iv n,iv a,iv b] [bv (j3D n a b)]:=by
 unfold j3D;refine gR Tryz.func125 ?_;repeat'(first|refine gU ?_|apply gE<;>intro h)<;>conv=>whnf
 all_goals
  refine j0O ?_;rw[CL];simp;omega
def jga(t:Tm):Bool:=eqTm t tz
def j7c:TmP tz (.ag zTm):=⟨true,0,[],true,0,[],rfl,.inr rfl,by simp[LvsP],by simp,.inr rfl,by simp[TmsP],by simp,by simp,by unfold i64;omega⟩
def jl7(t:Tm)(v:PV)(h:TmP t v):Pf C1 266 [v] [bv (jga t)]:=by
 have hs:=j8l t v h tz _ j7c;have e:jga t=eqTm t tz:=rfl;rw[←e] at hs;clear e;obtain⟨k1,n1,s1,l1,t1,b1,z1,x1,c1,y1,ys1,rfl,rfl,-⟩:=h.open;refine gR Tryz.func266 ?_;repeat'(first|refine gU ?_|refine gX hs ?_)<;>conv=>whnf
 all_goals rfl
def ja4(e:En):Bool:=if e.kind=2∨e.kind=3∨e.kind=4 then j0s e.val e.pars 0 else if e.kind=6 then jga e.val||j0s e.val (if 4<e.pars+1 then 4 else e.pars+1) 0 else jga e.val
def joX(e:En):Bool:=e.fam == []&&(decide (e.fixd=0)&&(decide (e.idx=0)&&decide (e.flds=0)))
def jmy(e:En)(v:PV)(h:EnP e v)(hB:0≤e.pars)(wA:e.pars≤4):Pf C1 228 [v] [bv (ja4 e)]:=by
 obtain⟨kind,pars,nm,ty,val,ht,fam,fixd,idx,flds,ctors⟩:=e;dsimp only at hB wA;obtain⟨tk,tn,ts,tb,tz',txs,tc,ty',tys,vk,vn,vs,vb,vz,vxs,vc,vy,vys,b,z,rfl,gA,hA,hz,qB,qA,gB,wB⟩:=h;dsimp only at gA hA hz qB qA gB wB⊢;have h1:=j0R val _ hA pars 0;have h2:=jl7 val _ hA;have h3:=j0R val _ hA (if 4<pars+1 then 4 else pars+1) 0
 unfold ja4;dsimp only;refine gR Tryz.func228 ?_;repeat'(first|refine gU ?_|apply gE<;>intro h|apply gM<;>intro h|refine gX h1 ?_|refine gX h2 ?_|refine gX h3 ?_)<;>conv=>whnf
 all_goals
  refine j0O ?_;clear h1 h2 h3
  simp_all
def j3y(e:En):Bool:=if e.kind=6∨e.kind=7 then decide (e.ht=0)&&(j2f e.fam&&(j3D e.fixd 0 32&&(j3D e.idx 0 32&&j3D e.flds 0 32)))
 else if e.kind=5 then decide (e.ht=0)&&(e.fam == []&&(j3D e.fixd 0 16&&(decide (e.idx=0)&&decide (e.flds=0))))
 else if e.kind=2 then j3D e.ht 1 1048576&&joX e else decide (e.ht=0)&&joX e
def jgO(e:En)(v:PV)(h:EnP e v):Pf C1 229 [v] [bv (j3y e)]:=by
 obtain⟨kind,pars,nm,ty,val,ht,fam,fixd,idx,flds,ctors⟩:=e;obtain⟨tk,tn,ts,tb,tz',txs,tc,ty',tys,vk,vn,vs,vb,vz,vxs,vc,vy,vys,b,z,rfl,gA,qA,hz,wA,hA,hB,qB⟩:=h;dsimp only at gA qA hz wA hA hB qB⊢;have h1:=j2g fam hA;have h2:=fun n=>j7y n 0 32
 have h3:=j7y fixd 0 16;have h4:=j7y ht 1 1048576;unfold j3y joX;dsimp only;refine gR Tryz.func229 ?_;repeat'(first|refine gU ?_|apply gE<;>intro h|apply gM<;>intro h|refine gX h1 ?_|refine gX (h2 _) ?_|refine gX h3 ?_|refine gX h4 ?_|refine j1w ?_)<;>conv=>whnf
 all_goals
  refine j0O ?_;clear h1 h2 h3 h4
  simp_all
def idxP(p:List UInt8→Bool):List (List UInt8)→Nat→Int
 |[],_=>-1
 |t::r,i=>if p t=true then i else idxP p r (i+1)
def jjL(p:List UInt8→Bool):∀(ts:List (List UInt8)) (i:Nat),decide (0≤idxP p ts i)=ts.any p
 |[],i=>by simp[idxP]
 |t::r,i=>by
  rw[idxP,DT]
  by_cases h:p t=true
  ·rw[if_pos h,h];simp
  ·rw[if_neg h,jjL p r,CM.2 h];simp
def jit(s:List UInt8)(hs:s.length≤140737488355328):Pf C1 267 [sv s] [bv (!j2f s)]:=by
 have h1:=j2g s hs;refine gR Tryz.func267 ?_;repeat'(first|refine gU ?_|refine gX h1 ?_)<;>conv=>whnf
 all_goals rfl
def jez(ts:List (List UInt8))(b:Bool)(z:Nat)(hz:z=1∨ts=[])(wA:ts.length≤1000000)(hs:∀s∈ts,s.length≤140737488355328):Pf C1 305 [.sl b z (svs ts),.fn 267 [] []] [iv (idxP (fun s=>!j2f s) ts 0)]:=by
 have hlen:(svs ts).length=ts.length:=by simp
 refine gR Tryz.func305 ?_;all_goals try conv=>whnf
 refine j04 (G:=Nat) (fun i=>[(8,iv i)]) (fun _=>_) (fun i=>i≤ts.length∧idxP (fun s=>!j2f s) (ts.drop i) i=idxP (fun s=>!j2f s) ts 0) (fun i=>ts.length-i) 0 ⟨by omega,rfl⟩ rfl rfl ?_
 rintro i ⟨hi,hA⟩;dsimp only at hi hA⊢;repeat'(first|refine gU ?_|apply gE<;>intro h)<;>conv=>whnf
 ·have gA:i<ts.length:=by omega
  obtain⟨tc,qA⟩:∃tc,ts[i]?=some tc:=⟨_,AA gA⟩;have hw:=jit tc (hs _ (AE qA));rw[drop_at qA,idxP] at hA;repeat'(first|refine gU ?_|apply gM<;>intro h|refine VIdx.mk _ (j7Q qA) ?_|refine VOk.mk (j0z rfl (j6b hz)) ?_|refine gX hw ?_)<;>conv=>whnf
  ·rw[if_neg (by simp_all)] at hA
   exact VAgain.mk _ rfl _ (j0a rfl rfl rfl) ⟨i+1,⟨gA,hA⟩,by omega,rfl⟩
  ·rw[if_pos (by simp_all)] at hA
   rw[←hA]
 ·rw[AV (by omega),idxP] at hA
  rw[←hA]
def jeb(ts:List (List UInt8))(b:Bool)(z:Nat)(hz:z=1∨ts=[])(hA:ts.length≤1000000)(hs:∀s∈ts,s.length≤140737488355328):Pf C1 268 [.sl b z (svs ts),.fn 267 [] []] [bv (!ts.all j2f)]:=by
 have hi:=jez ts b z hz hA hs;have e:decide (0≤idxP (fun t=>!j2f t) ts 0) = !ts.all j2f:=by
  rw[jjL];clear hi hA hs hz
  induction ts with
  |nil=>rfl
  |cons t r ih=>
   rw[DT,BH];cases j2f t<;>simp_all
 refine gR Tryz.func268 ?_;repeat'(first|refine gU ?_|refine gX hi ?_)<;>conv=>whnf
 rw[←e]
def j9M(e:En):Bool:=if e.kind=5∨e.kind=7 then decide (e.ctors.length≤8)&&e.ctors.all j2f else decide (e.ctors.length=0)
def jlD(e:En)(v:PV)(h:EnP e v):Pf C1 230 [v] [bv (j9M e)]:=by
 obtain⟨kind,pars,nm,ty,val,ht,fam,fixd,idx,flds,ctors⟩:=e;obtain⟨tk,tn,ts,tb,tz',txs,tc,ty',tys,vk,vn,vs,vb,vz,vxs,vc,vy,vys,b,z,rfl,hB,hA,hz,qB,qA,gA,wA⟩:=h;dsimp only at hB hA hz qB qA gA wA⊢;have hz:z=1∨ctors=[]:=hz.imp (·.1) (·.1)
 have h1:=jeb ctors b z hz gA wA;have hlen:(svs ctors).length=ctors.length:=by simp
 unfold j9M;dsimp only;refine gR Tryz.func230 ?_;repeat'(first|refine gU ?_|apply gE<;>intro h|refine gX h1 ?_)<;>conv=>whnf
 all_goals
  refine j0O ?_;clear h1;first
   |(simp_all;done)
   |(simp_all;intro _;omega)
   |(simp_all;intro _;exfalso;omega)
def j1y(e:En):Bool:=j3D e.kind 1 7&&(j2f e.nm&&(j3D e.pars 0 4&&(j0s e.ty e.pars 0&&(ja4 e&&(j3y e&&j9M e)))))
def j5F(e:En)(v:PV)(h:EnP e v):Pf C1 173 [v] [bv (j1y e)]:=by
 have hv:=fun a b=>jmy e v h a b
 have hn:=jgO e v h;have hl:=jlD e v h;have e0:j1y e=(j3D e.kind 1 7&&(j2f e.nm&&(j3D e.pars 0 4&&(j0s e.ty e.pars 0&&(ja4 e&&(j3y e&&j9M e)))))):=rfl;rw[e0];clear e0;generalize ja4 e=q1 at *;generalize j3y e=q2 at *;generalize j9M e=q3 at *;obtain⟨kind,pars,nm,ty,val,ht,fam,fixd,idx,flds,ctors⟩:=e;obtain⟨tk,tn,ts,tb,tz',txs,tc,ty',tys,vk,vn,vs,vb,vz,vxs,vc,vy,vys,b,z,rfl,gA,hA,hz,wA,qA,hB,qB⟩:=h;dsimp only at gA hA hz wA qA hB qB hv⊢;have h1:=j7y kind 1 7;have h2:=j2g nm wA;have h3:=j7y pars 0 4;have h4:=j0R ty _ gA pars 0
 by_cases c3:j3D pars 0 4=true
 ·have hv:=hv (by simp[j3D] at c3;omega) (by simp[j3D] at c3;omega)
  rw[c3] at h3⊢;refine gR Tryz.func173 ?_;repeat'(first|refine gU ?_|apply gM<;>intro h|refine gX h1 ?_|refine gX h2 ?_|refine gX h3 ?_|refine gX h4 ?_|refine gX hv ?_|refine gX hn ?_|refine gX hl ?_)<;>conv=>whnf
  all_goals
   refine j0O ?_;clear h1 h2 h3 h4 hv hn hl
   simp_all
 ·rw[ET] at c3;rw[c3] at h3⊢;refine gR Tryz.func173 ?_;repeat'(first|refine gU ?_|apply gM<;>intro h|refine gX h1 ?_|refine gX h2 ?_|refine gX h3 ?_)<;>conv=>whnf
  all_goals
   refine j0O ?_;clear h1 h2 h3 h4 hv hn hl
   simp_all
open Go Go.Am Go.Gw
def errV(o:Except Int Tm):List PV:=match o with
 | .ok x=>[encT x,iv 0]
 | .error e=>[.ag zTm,iv e]
def jmG(l:Lv)(v:PV)(h:LvP l v):Pf C1 296 [v] [bv (!j0C l 4)]:=by
 have h1:=j2W l v h 4;obtain⟨k1,n1,l1,b1,z1,x1,rfl,rfl,wA,qA,hA,gA⟩:=h.open;refine gR Tryz.func296 ?_;repeat'(first|refine gU ?_|refine gX h1 ?_)<;>conv=>whnf
 all_goals rfl
def idxL(p:Lv→Bool):List Lv→Nat→Int
 |[],_=>-1
 |t::r,i=>if p t=true then i else idxL p r (i+1)
def jjK(p:Lv→Bool):∀(ts:List Lv) (i:Nat),decide (0≤idxL p ts i)=ts.any p
 |[],i=>by simp[idxL]
 |t::r,i=>by
  rw[idxL,DT]
  by_cases h:p t=true
  ·rw[if_pos h,h];simp
  ·rw[if_neg h,jjK p r,CM.2 h];simp
def jeB(ts:List Lv)(b:Bool)(z:Nat)(xs:List PV)(hz:z=3∨xs=[])(qA:LvsP ts xs)(hC:ts.length≤1000000):Pf C1 328 [.sl b z xs,.fn 296 [] []] [iv (idxL (fun l=>!j0C l 4) ts 0)]:=by
 have hlen:=qA.len;refine gR Tryz.func328 ?_;all_goals try conv=>whnf
 refine j04 (G:=Nat) (fun i=>[(8,iv i)]) (fun _=>_) (fun i=>i≤ts.length∧idxL (fun l=>!j0C l 4) (ts.drop i) i=idxL (fun l=>!j0C l 4) ts 0) (fun i=>ts.length-i) 0 ⟨by omega,rfl⟩ rfl rfl ?_
 rintro i ⟨hi,hA⟩;dsimp only at hi hA⊢;repeat'(first|refine gU ?_|apply gE<;>intro h)<;>conv=>whnf
 ·have hB:i<ts.length:=by omega
  obtain⟨tc,gA⟩:∃tc,ts[i]?=some tc:=⟨_,AA hB⟩;obtain⟨v,hv,hl⟩:=qA.at gA;have hw:=jmG tc v hl;obtain⟨k1,n1,l1,b1,z1,x1,rfl,rfl,wB,qB,wA,gB⟩:=hl.open;rw[drop_at gA,idxL] at hA;repeat'(first|refine gU ?_|apply gM<;>intro h|refine VIdx.mk _ hv ?_|refine gZ hz ?_|refine gX hw ?_)<;>conv=>whnf
  ·rw[if_neg (by simp_all)] at hA
   exact VAgain.mk _ rfl _ (j0a rfl rfl rfl) ⟨i+1,⟨hB,hA⟩,by omega,rfl⟩
  ·rw[if_pos (by simp_all)] at hA
   rw[←hA]
 ·rw[AV (by omega),idxL] at hA
  rw[←hA]
def jec(ts:List Lv)(b:Bool)(z:Nat)(xs:List PV)(hz:z=3∨xs=[])(hA:LvsP ts xs)(qA:ts.length≤1000000):Pf C1 295 [.sl b z xs,.fn 296 [] []] [bv (ts.any fun l=>!j0C l 4)]:=by
 have hi:=jeB ts b z xs hz hA qA;refine gR Tryz.func295 ?_;repeat'(first|refine gU ?_|refine gX hi ?_)<;>conv=>whnf
 rw[←jjK _ ts 0]
def atF(pars:Int)(t:Tm)(bys:List Lv):Except Int Tm:=if(bys.length:Int)≠pars∨(bys.any fun l=>!j0C l 4)=true then .error 16 else match j1S t bys with
 |none=>.error 15
 |some x=>.ok x
def jrW(e:En)(v:PV)(h:EnP e v)(t:Tm)(w:PV)(ht:TmP t w)(bys:List Lv)(b:Bool)(z:Nat)(xs:List PV)(hz:z=3∨xs=[])(hA:LvsP bys xs)(qA:bys.length≤1000000):Pf C1 258 [v,w,.sl b z xs] (errV (atF e.pars t bys)):=by
 have hlen:=hA.len;have h1:=jec bys b z xs hz hA qA;have h2:=jcW bys b z xs hz hA qA t w ht;have e0:atF e.pars t bys=if(bys.length:Int)≠e.pars∨(bys.any fun l=>!j0C l 4)=true then .error 16 else match j1S t bys with
  |none=>.error 15
  |some x=>.ok x:=rfl
 generalize(bys.any fun l=>!j0C l 4)=q at *
 obtain⟨kind,pars,nm,ty,val,gA,fam,fixd,idx,flds,ctors⟩:=e;obtain⟨tk,tn,ts,tb,tz',txs,tc,ty',tys,vk,vn,vs,vb,vz,vxs,vc,vy,vys,b',z',rfl,-⟩:=h;dsimp only at e0⊢;obtain⟨k1,n1,s1,l1,t1,b1,z1,x1,c1,y1,ys1,rfl,rfl,-⟩:=ht.open
 by_cases c1:(bys.length:Int)≠pars∨q=true
 ·rw[if_pos c1] at e0;rw[e0];refine gR Tryz.func258 ?_;repeat'(first|refine gU ?_|apply gE<;>intro h|apply gM<;>intro h|refine gX h1 ?_)<;>conv=>whnf
  all_goals first|rfl|(exfalso;simp_all;done)|(exfalso;omega)
 ·rw[if_neg c1] at e0;rw[e0];have c2:(bys.length:Int)=pars:=by omega
  have c3:q=false:=by cases q<;>simp_all
  subst c3;cases h0:j1S (.mk k1 n1 s1 l1 t1) bys with
  |none=>
   rw[h0] at h2;simp only[putV] at h2;refine gR Tryz.func258 ?_;repeat'(first|refine gU ?_|apply gE<;>intro h|refine gX h1 ?_|refine gX h2 ?_)<;>conv=>whnf
   all_goals first|rfl|(exfalso;omega)
  |some x=>
   rw[h0] at h2;simp only[putV,errV] at h2⊢;obtain⟨k2,n2,s2,b2,z2,x2,c2,y2,ys2,he⟩:=j06 x;rw[he] at h2⊢;refine gR Tryz.func258 ?_;repeat'(first|refine gU ?_|apply gE<;>intro h|refine gX h1 ?_|refine gX h2 ?_)<;>conv=>whnf
   all_goals first|rfl|(exfalso;omega)
def j6A(o:Except Int Tm):∃k n s b z xs c y ys e,errV o=[.ag [iv k,iv n,sv s,.sl b z xs,.sl c y ys],iv e]:=by
 cases o with
 |error e=>exact⟨_,_,_,_,_,_,_,_,_,e,rfl⟩
 |ok x=>
  obtain⟨k2,n2,s2,b2,z2,x2,c2,y2,ys2,he⟩:=j06 x;exact⟨k2,n2,s2,b2,z2,x2,c2,y2,ys2,0,by simp only[errV,he]⟩
def jiY(e:En)(bys:List Lv):Except Int Tm:=if j1y e=true then atF e.pars e.ty bys else .error 10
def jcp(e:En)(bys:List Lv):Except Int Tm:=if j1y e=true then(if e.kind=2 then atF e.pars e.val bys else .error 13) else .error 10
def jg6(e:En)(v:PV)(h:EnP e v)(bys:List Lv)(b:Bool)(z:Nat)(xs:List PV)(hz:z=3∨xs=[])(hA:LvsP bys xs)(gA:bys.length≤1000000):Pf C1 211 [v,.sl b z xs] (errV (jiY e bys)):=by
 have hr:=j5F e v h;have h0:=h;have e0:jiY e bys=if j1y e=true then atF e.pars e.ty bys else .error 10:=rfl
 rw[e0];clear e0;generalize j1y e=q at *;obtain⟨kind,pars,nm,ty,val,wA,fam,fixd,idx,flds,ctors⟩:=e;obtain⟨tk,tn,ts,tb,tz',txs,tc,ty',tys,vk,vn,vs,vb,vz,vxs,vc,vy,vys,b',z',rfl,qA,-⟩:=h;have ha:=jrW _ _ h0 _ _ qA bys b z xs hz hA gA;dsimp only at ha⊢;obtain⟨k2,n2,s2,b2,z2,x2,c2,y2,ys2,ee,he⟩:=j6A (atF pars ty bys);cases q with
 |true=>
  rw[if_pos rfl];rw[he] at ha⊢;refine gR Tryz.func211 ?_;repeat'(first|refine gU ?_|refine gX hr ?_|refine gX ha ?_)<;>conv=>whnf
  all_goals rfl
 |false=>
  rw[if_neg (by simp)]
  refine gR Tryz.func211 ?_;repeat'(first|refine gU ?_|refine gX hr ?_)<;>conv=>whnf
  all_goals rfl
def jen(e:En)(v:PV)(h:EnP e v)(bys:List Lv)(b:Bool)(z:Nat)(xs:List PV)(hz:z=3∨xs=[])(qA:LvsP bys xs)(gA:bys.length≤1000000):Pf C1 391 [v,.sl b z xs] (errV (jcp e bys)):=by
 have hr:=j5F e v h;have h0:=h;have e0:jcp e bys=if j1y e=true then(if e.kind=2 then atF e.pars e.val bys else .error 13) else .error 10:=rfl
 rw[e0];clear e0;generalize j1y e=q at *;obtain⟨kind,pars,nm,ty,val,hB,fam,fixd,idx,flds,ctors⟩:=e;obtain⟨tk,tn,ts,tb,tz',txs,tc,ty',tys,vk,vn,vs,vb,vz,vxs,vc,vy,vys,b',z',rfl,wA,hA,-⟩:=h;have ha:=jrW _ _ h0 _ _ hA bys b z xs hz qA gA;dsimp only at ha⊢;obtain⟨k2,n2,s2,b2,z2,x2,c2,y2,ys2,ee,he⟩:=j6A (atF pars val bys);cases q with
 |true=>
  rw[if_pos rfl]
  by_cases hk:kind=2
  ·rw[if_pos hk];rw[he] at ha⊢;refine gR Tryz.func391 ?_;repeat'(first|refine gU ?_|refine gX hr ?_|refine gX ha ?_)<;>conv=>whnf
   all_goals first|rfl|(exfalso;omega)
  ·rw[if_neg hk];refine gR Tryz.func391 ?_;repeat'(first|refine gU ?_|refine gX hr ?_)<;>conv=>whnf
   all_goals first|rfl|(exfalso;omega)
 |false=>
  rw[if_neg (by simp)]
  refine gR Tryz.func391 ?_;repeat'(first|refine gU ?_|refine gX hr ?_)<;>conv=>whnf
  all_goals rfl
open Go Go.Am Go.Gw
def jqm(l:List (List UInt8)):PV:=match l with
 |[]=>.sl true 0 []
 |s::r=>.sl false 1 (svs (s::r))
def jv9:j0i C1.P .eql 49 x y (.sl true 0 []) (.sl true 0 [])=some (bv true):=by kernel_rfl
def jva{b:Bool}{c:PV}:j0i C1.P .eql 49 x y (.sl b z (c::cs)) (.sl true 0 [])=some (bv false):=by kernel_rfl
def jkY(l:List (List UInt8))(b:Bool)(z:Nat)(hz:z=1∨(l=[]∧b=true∧z=0))(hn:l=[]→b=true∧z=0)(hl:l.length≤1000000):Pf C1 187 [.sl b z (svs l)] [jqm l]:=by
 cases l with
 |nil=>
  obtain⟨rfl,rfl⟩:=hn rfl;refine gR Tryz.func187 ?_;repeat'(first|refine gU ?_|refine VRes.mk _ jv9 ?_)<;>conv=>whnf
  all_goals rfl
 |cons s r=>
  have hA:z=1:=by simpa using hz
  subst hA;have qA:(svs (s::r)).all (pur 6)=true:=j2u _;refine gR Tryz.func187 ?_;repeat'(first|refine gU ?_|refine VRes.mk _ jva ?_|refine VOk.mk (j8G (w:=16) (r:=140737488355328) rfl rfl (by simp at hl⊢;omega) (by simp at hl⊢;omega)) ?_)<;>conv=>whnf
  exact j0m rfl (j03 (j0p rfl (by simp) qA) j0h) rfl rfl
def encE(e:En):PV:=match encT e.ty,encT e.val with
 | .ag tc,.ag vc=>.ag ([iv e.kind,iv e.pars,sv e.nm]++tc++vc++[iv e.ht,sv e.fam,iv e.fixd,iv e.idx,iv e.flds,jqm e.ctors])
 |_,_=>.un
def jaZ(e:En)(v:PV)(h:EnP e v):Pf C1 126 [v] [encE e]:=by
 obtain⟨kind,pars,nm,ty,val,gB,fam,fixd,idx,flds,ctors⟩:=e;obtain⟨tk,tn,ts,tb,tz',txs,tc,ty',tys,vk,vn,vs,vb,vz,vxs,vc,vy,vys,b,z,rfl,qA,hA,hz,qB,hB,wA,wB⟩:=h;dsimp only at qA hA hz wA⊢;have h1:=j6p ty _ qA true 0;have h2:=j6p val _ hA true 0;obtain⟨k2,n2,s2,b2,z2,x2,c2,y2,ys2,he⟩:=j06 ty;obtain⟨k3,n3,s3,b3,z3,x3,c3,y3,ys3,gA⟩:=j06 val;unfold encE;dsimp only;rw[he] at h1;rw[gA] at h2;rw[he,gA];have h3:Pf C1 187 [.sl b z (svs ctors)] [jqm ctors]:=jkY ctors b z (hz.imp (·.1) id) (fun e=>by
  rcases hz with hz|hz
  ·exact absurd e hz.2
  ·exact hz.2) wA
 have e4:∃b z xs,jqm ctors=.sl b z xs:=by cases ctors<;>exact⟨_,_,_,rfl⟩
 obtain⟨b4,z4,x4,e4⟩:=e4;rw[e4] at h3⊢;refine gR Tryz.func126 ?_;repeat'(first|refine gU ?_|refine j01 h1 fun _=>?_|refine j01 h2 fun _=>?_|refine j01 h3 fun _=>?_|apply gK)<;>conv=>whnf
 all_goals rfl
variable{e:En}
def j5H(h:EnP e v):EnP e (encE e):=by
 obtain⟨kind,pars,nm,ty,val,wB,fam,fixd,idx,flds,ctors⟩:=e;obtain⟨tk,tn,ts,tb,tz',txs,tc,ty',tys,vk,vn,vs,vb,vz,vxs,vc,vy,vys,b,z,rfl,qB,qA,hz,gA,hA,wA,hB⟩:=h;dsimp only at qB qA hz gA hA wA hB;have h1:=qB.w;have h2:=qA.w;unfold TmW at h1 h2;obtain⟨k2,n2,s2,b2,z2,x2,c2,y2,ys2,he⟩:=j06 ty;obtain⟨k3,n3,s3,b3,z3,x3,c3,y3,ys3,gB⟩:=j06 val;unfold encE;dsimp only;rw[he] at h1;rw[gB] at h2;rw[he,gB];cases ctors with
 |nil=>exact⟨_,_,_,_,_,_,_,_,_,_,_,_,_,_,_,_,_,_,_,_,rfl,h1,h2,.inr ⟨rfl,rfl,rfl⟩,gA,hA,wA,hB⟩
 |cons s r=>exact⟨_,_,_,_,_,_,_,_,_,_,_,_,_,_,_,_,_,_,_,_,rfl,h1,h2,.inl ⟨rfl,by simp⟩,gA,hA,wA,hB⟩
open Go Go.Am Go.Gw
structure Nv where
 tr:Tr
 es:List En
def EnsP:List En→List PV→Prop
 |[],xs=>xs=[]
 |e::r,xs=>∃v xs',xs=v::xs'∧EnP e v∧EnsP r xs'
def EnsP.len:∀{es:List En}{xs:List PV},EnsP es xs→xs.length=es.length
 |[],xs,h=>by
  simp only[EnsP] at h;subst h;rfl
 |e::r,xs,h=>by
  simp only[EnsP] at h;obtain⟨v,xs',rfl,-,h2⟩:=h;simp[EnsP.len h2]
def EnsP.at:∀{es:List En}{xs:List PV},EnsP es xs→∀{i:Nat}{e:En},es[i]?=some e→∃v,xs[i]?=some v∧EnP e v
 |[],xs,h,i,e,hi=>by simp at hi
 |a::r,xs,h,i,e,hi=>by
  simp only[EnsP] at h;obtain⟨v,xs',rfl,h1,h2⟩:=h;cases i with
  |zero=>simp at hi;subst hi;exact⟨v,rfl,h1⟩
  |succ i=>simpa using EnsP.at h2 (i:=i) (by simpa using hi)
def EnsP.snoc:∀{es:List En}{xs:List PV}{e:En}{v:PV},EnsP es xs→EnP e v→EnsP (es++[e]) (xs++[v])
 |[],xs,e,v,h,h'=>by
  simp only[EnsP] at h;subst h;exact⟨v,[],rfl,h',rfl⟩
 |a::r,xs,e,v,h,h'=>by
  simp only[EnsP] at h;obtain⟨w,xs',rfl,h1,h2⟩:=h;exact⟨w,xs'++[v],rfl,h1,EnsP.snoc h2 h'⟩
structure NvOk (E:Nv):Prop where
 idx:∀s i,getR s E.tr=some i→0≤i∧i<E.es.length
 right:∀e∈E.es,j1y e=true
 len:E.es.length≤100000
def NvP(E:Nv)(v:PV):Prop:=∃b z xs,v=.cp [j9c E.tr,.sl b z xs]∧((z=19∧E.es≠[])∨(E.es=[]∧b=true∧z=0))∧EnsP E.es xs∧NvOk E
def zEn:List PV:=[iv 0,iv 0,sv [],iv 0,iv 0,sv [],.sl true 0 [],.sl true 0 [],iv 0,iv 0,sv [],.sl true 0 [],.sl true 0 [],iv 0,sv [],iv 0,iv 0,iv 0,.sl true 0 []]
def enz:En:=⟨0,0,[],tz,tz,0,[],0,0,0,[]⟩
def jnK:EnP enz (.ag zEn):=⟨_,_,_,_,_,_,_,_,_,_,_,_,_,_,_,_,_,_,_,_,rfl,j7c,j7c,.inr ⟨rfl,rfl,rfl⟩,by simp[enz],by simp[enz],by simp[enz],by simp[enz]⟩
def j0E(E:Nv)(s:List UInt8):Option En:=match getR s E.tr with
 |none=>none
 |some i=>E.es[i.toNat]?
def NvP.zok{E:Nv}{b:Bool}{xs:List PV}(hz:(z=19∧E.es≠[])∨(E.es=[]∧b=true∧z=0))(hx:EnsP E.es xs):z=19∨xs=[]:=by
 rcases hz with hz|hz
 ·exact .inl hz.1
 ·refine .inr ?_;have:=hx.len;rw[hz.1] at this;exact AJ this
def j6z(E:Nv)(v:PV)(h:NvP E v)(s:List UInt8):∃w,EnP ((j0E E s).getD enz) w∧Pf C1 117 [v,sv s] [w,bv (j0E E s).isSome]:=by
 obtain⟨b,z,xs,rfl,hz,hx,gA⟩:=h;have hg:=jhw s E.tr;have qA:=NvP.zok hz hx;unfold j0E;cases hG:getR s E.tr with
 |none=>
  rw[hG] at hg;refine⟨.ag zEn,jnK,?_⟩;refine gR Tryz.func117 ?_;repeat'(first|refine gU ?_|refine gX hg ?_)<;>conv=>whnf
  all_goals rfl
 |some i=>
  rw[hG] at hg;obtain⟨i0,i1⟩:=gA.idx s i hG;obtain⟨n,rfl⟩:∃n:Nat,i=n:=⟨i.toNat,by omega⟩
  obtain⟨e,he⟩:∃e,E.es[n]?=some e:=⟨_,AA (by omega)⟩
  obtain⟨w,hw,hP⟩:=hx.at he;have hA:E.es[((n:Nat):Int).toNat]?=some e:=by simpa using he
  refine⟨w,?_,?_⟩
  ·dsimp only;rw[hA];exact hP
  dsimp only;rw[hA];obtain⟨tk,tn,ts,tb,tz',txs,tc,ty',tys,vk,vn,vs,vb,vz,vxs,vc,vy,vys,b',z',rfl,-⟩:=hP;refine gR Tryz.func117 ?_;repeat'(first|refine gU ?_|refine gX hg ?_|refine VIdx.mk _ hw ?_|refine gZ qA ?_)<;>conv=>whnf
  all_goals rfl
def j4h(h:EnP e v):∃tk tn ts tb tz txs tc ty tys vk vn vs vb vz vxs vc vy vys b z,encE e=.ag [iv e.kind,iv e.pars,sv e.nm,iv tk,iv tn,sv ts,.sl tb tz txs,.sl tc ty tys,iv vk,iv vn,sv vs,.sl vb vz vxs,.sl vc vy vys,iv e.ht,sv e.fam,iv e.fixd,iv e.idx,iv e.flds,.sl b z (svs e.ctors)]:=by
 obtain⟨a1,a2,a3,a4,a5,a6,a7,a8,a9,a10,a11,a12,a13,a14,a15,a16,a17,a18,a19,a20,h,-⟩:=j5H h;exact⟨a1,a2,a3,a4,a5,a6,a7,a8,a9,a10,a11,a12,a13,a14,a15,a16,a17,a18,a19,a20,h⟩
def jdf(E:Nv)(v:PV)(h:NvP E v)(s:List UInt8):Pf C1 368 [v,sv s] [encE ((j0E E s).getD enz),bv (j0E E s).isSome]:=by
 obtain⟨w,hw,he⟩:=j6z E v h s;have hc:=jaZ _ _ hw;obtain⟨b,z,xs,rfl,-⟩:=h;obtain⟨tk,tn,ts,tb,tz',txs,tc,ty',tys,vk,vn,vs,vb,vz,vxs,vc,vy,vys,b',z',hE⟩:=j4h hw;rw[hE] at hc⊢;obtain⟨a1,a2,a3,a4,a5,a6,a7,a8,a9,a10,a11,a12,a13,a14,a15,a16,a17,a18,a19,a20,rfl,-⟩:=hw;refine gR Tryz.func368 ?_;repeat'(first|refine gU ?_|refine gX he ?_|refine gX hc ?_)<;>conv=>whnf
 all_goals rfl
def jcS(E:Nv)(s:List UInt8)(by_:En→Except Int Tm):Except Int Tm:=match j0E E s with
 |none=>.error 13
 |some e=>by_ e
def jky(E:Nv)(v:PV)(h:NvP E v)(s:List UInt8)(b:Bool)(z:Nat)(xs:List PV)(f:FuncId)(qA:callable C1.P f=true)(F:En→Except Int Tm)(hF:∀e w,EnP e w→Pf C1 f [w,.sl b z xs] (errV (F e))):Pf C1 210 [v,sv s,.sl b z xs,.fn f [] []] (errV (jcS E s F)):=by
 obtain⟨w,hw,he⟩:=j6z E v h s;have hf:=hF _ _ hw;obtain⟨b',z',xs',rfl,-⟩:=h;unfold jcS;cases hE:j0E E s with
 |none=>
  rw[hE] at he;obtain⟨a1,a2,a3,a4,a5,a6,a7,a8,a9,a10,a11,a12,a13,a14,a15,a16,a17,a18,a19,a20,rfl,-⟩:=hw;refine gR Tryz.func210 ?_;repeat'(first|refine gU ?_|refine gX he ?_)<;>conv=>whnf
  all_goals rfl
 |some e=>
  rw[hE] at he hf;obtain⟨k2,n2,s2,b2,z2,x2,c2,y2,ys2,ee,hA⟩:=j6A (F e);simp only[CF] at hf;rw[hA] at hf;dsimp only;rw[hA];obtain⟨a1,a2,a3,a4,a5,a6,a7,a8,a9,a10,a11,a12,a13,a14,a15,a16,a17,a18,a19,a20,rfl,-⟩:=hw;refine gR Tryz.func210 ?_;repeat'(first|refine gU ?_|refine gX he ?_)<;>conv=>whnf
  simp only[qA];repeat'(first|refine gU ?_|refine gX hf ?_)<;>conv=>whnf
  all_goals rfl
def typeAt(E:Nv)(s:List UInt8)(bys:List Lv):Except Int Tm:=jcS E s fun e=>jiY e bys
def j2X(E:Nv)(s:List UInt8)(bys:List Lv):Except Int Tm:=jcS E s fun e=>jcp e bys
def jhY(E:Nv)(v:PV)(h:NvP E v)(s:List UInt8)(bys:List Lv)(b:Bool)(z:Nat)(xs:List PV)(hz:z=3∨xs=[])(hA:LvsP bys xs)(gA:bys.length≤1000000):Pf C1 156 [v,sv s,.sl b z xs] (errV (typeAt E s bys)):=by
 have ht:=jky E v h s b z xs 211 rfl (fun e=>jiY e bys) (fun e w he=>jg6 e w he bys b z xs hz hA gA)
 unfold typeAt;obtain⟨k2,n2,s2,b2,z2,x2,c2,y2,ys2,ee,qA⟩:=j6A (jcS E s fun e=>jiY e bys)
 rw[qA] at ht⊢;obtain⟨b',z',xs',rfl,-⟩:=h;refine gR Tryz.func156 ?_;repeat'(first|refine gU ?_|refine gX ht ?_)<;>conv=>whnf
 all_goals rfl
def jgj(E:Nv)(v:PV)(h:NvP E v)(s:List UInt8)(bys:List Lv)(b:Bool)(z:Nat)(xs:List PV)(hz:z=3∨xs=[])(hA:LvsP bys xs)(gA:bys.length≤1000000):Pf C1 386 [v,sv s,.sl b z xs] (errV (j2X E s bys)):=by
 have ht:=jky E v h s b z xs 391 rfl (fun e=>jcp e bys) (fun e w he=>jen e w he bys b z xs hz hA gA)
 unfold j2X;obtain⟨k2,n2,s2,b2,z2,x2,c2,y2,ys2,ee,qA⟩:=j6A (jcS E s fun e=>jcp e bys)
 rw[qA] at ht⊢;obtain⟨b',z',xs',rfl,-⟩:=h;refine gR Tryz.func386 ?_;repeat'(first|refine gU ?_|refine gX ht ?_)<;>conv=>whnf
 all_goals rfl
def addF(E:Nv)(e:En):Except Int Nv:=if j1y e=true then match getR e.nm E.tr with
  |some _=>.error 14
  |none=>.ok ⟨putR e.nm E.es.length E.tr,E.es++[e]⟩
 else .error 10

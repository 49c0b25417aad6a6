/- Sorted maps that never change (package tree). -/
import Derived.Test.YtbnodhcijeaceaaGreatDoorZKf
set_option linter.all false
set_option maxHeartbeats 2000000
set_option maxRecDepth 100000
namespace Go.Proofs.YtbnodhcijeaceaaGreatDoor
open Go Go.Am Go.Gw
inductive Tr where
 |nil
 |nd (s:List UInt8) (n:Int) (l r:Tr) (d q:Int)
abbrev nilP:PV:=.sc (.pointer none)
def encR:Tr→PV
 | .nil=>nilP
 | .nd s n l r d q=>.cp [sv s,iv n,encR l,encR r,iv d,iv q]
def Tr.deep:Tr→Int
 | .nil=>0
 | .nd _ _ _ _ d _=>d
def Tr.count:Tr→Int
 | .nil=>0
 | .nd _ _ _ _ _ q=>q
def j0b(s:List UInt8)(n:Int)(l r:Tr):Tr:=.nd s n l r ((if r.deep>l.deep then r.deep else l.deep)+1) (l.count+r.count+1)
def Tr.ok:Tr→Nat→Prop
 | .nil,_=>True
 | .nd _ _ l r d q,m=>l.ok m∧r.ok m∧0≤d∧d≤m∧0≤q∧q≤m
variable{op:BinOp}{a b:List UInt8}{m:Nat}{x y:Operand}{K:PV→Prop}{P:Program}{t:Tr}{T:TypeId}
theorem slss:j0j P .lss T x y (sv a) (sv b)=some (bv (Op.bytesLess a b)):=by
 simp only[j0j,j6E,eqGuard,binOp,Op.stringOp,j7R];rfl
theorem sgtr:j0j P .gtr T x y (sv a) (sv b)=some (bv (!(Op.bytesLess a b||a == b))):=by
 simp only[j0j,j6E,eqGuard,binOp,Op.stringOp,j7R];rfl
def jtN(op:BinOp)(a b:List UInt8)(K:PV→Prop):Prop:=match op with
 | .eql=>K (bv (a == b))
 | .neq=>K (bv (!(a == b)))
 | .lss=>K (bv (Op.bytesLess a b))
 | .gtr=>K (bv (!(Op.bytesLess a b||a == b)))
 |_=>False
theorem j8K(h:jtN op a b K):VRes (j0j P op T x y (sv a) (sv b)) K:=by
 cases op with
 |eql=>exact⟨_,seql,h⟩
 |neq=>exact⟨_,sneq,h⟩
 |lss=>exact⟨_,slss,h⟩
 |gtr=>exact⟨_,sgtr,h⟩
 |_=>exact h.elim
def Tr.isNil:Tr→Bool
 | .nil=>true
 |_=>false
theorem jty:j0j C1.P .eql 149 x y nilP nilP=some (bv true):=by kernel_rfl
theorem jtz:j0j C1.P .neq 149 x y nilP nilP=some (bv false):=by kernel_rfl
theorem jru{cs:List PV}:j0j C1.P .eql 149 x y (.cp cs) nilP=some (bv false):=by kernel_rfl
theorem jrv{cs:List PV}:j0j C1.P .neq 149 x y (.cp cs) nilP=some (bv true):=by kernel_rfl
def jqd(op:BinOp)(b:Bool)(K:PV→Prop):Prop:=match op with
 | .eql=>K (bv b)
 | .neq=>K (bv (!b))
 |_=>False
theorem j3E(h:jqd op t.isNil K):VRes (j0j C1.P op 149 x y (encR t) nilP) K:=by
 cases op with
 |eql=>cases t with
  |nil=>exact⟨_,jty,h⟩
  |nd s n l r d q=>exact⟨_,jru,h⟩
 |neq=>cases t with
  |nil=>exact⟨_,jtz,h⟩
  |nd s n l r d q=>exact⟨_,jrv,h⟩
 |_=>exact h.elim
theorem j4j(t:Tr):Pf C1 306 [encR t] [iv t.deep]:=by
 cases t with
 |nil=>
  refine j00 Tryz.func306 rfl rfl rfl ?_;repeat'(first|refine gU ?_|refine j3E (t:=.nil) ?_)<;>conv=>whnf
  all_goals rfl
 |nd s n l r d q=>
  refine j00 Tryz.func306 rfl rfl rfl ?_;repeat'(first|refine gU ?_|refine j3E (t:=.nd s n l r d q) ?_)<;>conv=>whnf
  all_goals rfl
theorem jdt(t:Tr):Pf C1 307 [encR t] [iv t.count]:=by
 cases t with
 |nil=>
  refine j00 Tryz.func307 rfl rfl rfl ?_;repeat'(first|refine gU ?_|refine j3E (t:=.nil) ?_)<;>conv=>whnf
  all_goals rfl
 |nd s n l r d q=>
  refine j00 Tryz.func307 rfl rfl rfl ?_;repeat'(first|refine gU ?_|refine j3E (t:=.nd s n l r d q) ?_)<;>conv=>whnf
  all_goals rfl
theorem Tr.ok.bd(h:t.ok m):0≤t.deep∧t.deep≤m∧0≤t.count∧t.count≤m:=by
 cases t with
 |nil=>simp[Tr.deep,Tr.count]
 |nd s n l r d q=>obtain⟨-,-,h1,h2,h3,h4⟩:=h;exact⟨h1,h2,h3,h4⟩
theorem j1l(t:Tr):t=.nil∨∃cs,encR t=.cp cs:=by
 cases t with
 |nil=>exact .inl rfl
 |nd s n l r d q=>exact .inr ⟨_,rfl⟩
theorem jbQ(s:List UInt8)(n:Int)(l r:Tr)(m:Nat)(hm:m≤1000000)(hol:l.ok m)(hor:r.ok m):Pf C1 269 [sv s,iv n,encR l,encR r] [encR (j0b s n l r)]:=by
 have h1:=j4j l;have h2:=j4j r;have h3:=jdt l;have h4:=jdt r;obtain⟨a1,a2,a3,a4⟩:=hol.bd;obtain⟨b1,b2,b3,b4⟩:=hor.bd;have e:encR (j0b s n l r)=.cp [sv s,iv n,encR l,encR r,iv ((if r.deep>l.deep then r.deep else l.deep)+1),iv (l.count+r.count+1)]:=rfl
 rw[e];clear e;have hif:0≤(if r.deep>l.deep then r.deep else l.deep)∧(if r.deep>l.deep then r.deep else l.deep)≤m:=by split<;>omega
 rcases j1l l with hl|⟨cl,hl⟩<;>rcases j1l r with hr|⟨cr,hr⟩
 ·subst hl;subst hr;refine j00 Tryz.func269 rfl rfl rfl ?_;repeat'(first|refine gU ?_|refine gX h1 ?_|refine gX h3 ?_)<;>conv=>whnf
  exact j0n rfl rfl rfl rfl
 ·subst hl;rw[hr] at h2 h4⊢;refine j00 Tryz.func269 rfl rfl rfl ?_;repeat'(first|refine gU ?_|refine gX h1 ?_|refine gX h2 ?_|refine gX h3 ?_|refine gX h4 ?_)<;>conv=>whnf
  exact j0n rfl rfl rfl rfl
 ·subst hr;rw[hl] at h1 h3⊢;refine j00 Tryz.func269 rfl rfl rfl ?_;repeat'(first|refine gU ?_|refine gX h1 ?_|refine gX h2 ?_|refine gX h3 ?_|refine gX h4 ?_)<;>conv=>whnf
  exact j0n rfl rfl rfl rfl
 ·rw[hl] at h1 h3⊢;rw[hr] at h2 h4⊢;refine j00 Tryz.func269 rfl rfl rfl ?_;repeat'(first|refine gU ?_|refine gX h1 ?_|refine gX h2 ?_|refine gX h3 ?_|refine gX h4 ?_)<;>conv=>whnf
  exact j0n rfl rfl rfl rfl
def ptr(v:PV):Prop:=v=nilP∨∃cs,v=.cp cs
theorem j0U(t:Tr):ptr (encR t):=by
 cases t with
 |nil=>exact .inl rfl
 |nd s n l r d q=>exact .inr ⟨_,rfl⟩
theorem ptr.pure{v:PV}(h:ptr v):∀n,pur (n+1) v=true:=by
 rcases h with rfl|⟨cs,rfl⟩<;>intro n<;>rfl
theorem j3U(s:List UInt8)(n:Int)(l r:Tr):encR (j0b s n l r)=.cp [sv s,iv n,encR l,encR r,iv ((if r.deep>l.deep then r.deep else l.deep)+1),iv (l.count+r.count+1)]:=rfl
theorem j3p(s:List UInt8)(n:Int)(l0 r0:Tr)(d q:Int)(l r:Tr)(m:Nat)(hm:m≤1000000)(hol:l.ok m)(hor:r.ok m):Pf C1 270 [encR (.nd s n l0 r0 d q),encR l,encR r] [encR (j0b s n l r)]:=by
 have hj:=jbQ s n l r m hm hol hor;have e:encR (.nd s n l0 r0 d q)=.cp [sv s,iv n,encR l0,encR r0,iv d,iv q]:=rfl;rw[e];rw[j3U] at hj⊢;have e1:=j0U l;have e2:=j0U r;generalize encR l=wl at *;generalize encR r=wr at *;generalize encR l0=wl0 at *;generalize encR r0=wr0 at *;rcases e1 with rfl|⟨c1,rfl⟩<;>rcases e2 with rfl|⟨c2,rfl⟩
 all_goals
  refine j00 Tryz.func270 rfl rfl rfl ?_;repeat'(first|refine gU ?_|refine j01 hj fun _=>?_|apply gK)<;>conv=>whnf
  rfl
theorem j4l{s:List UInt8}{n:Int}{l r:Tr}(hol:l.ok m)(hor:r.ok m):(j0b s n l r).ok (2*m+1):=by
 have up:∀{t:Tr}{m k:Nat},m≤k→t.ok m→t.ok k:=by
  intro t m k hk
  induction t with
  |nil=>intro _;trivial
  |nd s n l r d q ihl ihr=>
   rintro⟨h1,h2,h3,h4,h5,h6⟩;exact⟨ihl h1,ihr h2,h3,by omega,h5,by omega⟩
 obtain⟨a1,a2,a3,a4⟩:=hol.bd;obtain⟨b1,b2,b3,b4⟩:=hor.bd;have hif:0≤(if r.deep>l.deep then r.deep else l.deep)∧(if r.deep>l.deep then r.deep else l.deep)≤m:=by split<;>omega
 exact⟨up (by omega) hol,up (by omega) hor,by omega,by omega,by omega,by omega⟩
theorem Tr.ok.up{k:Nat}(hk:m≤k):t.ok m→t.ok k:=by
 induction t with
 |nil=>intro _;trivial
 |nd s n l r d q ihl ihr=>
  rintro⟨h1,h2,h3,h4,h5,h6⟩;exact⟨ihl h1,ihr h2,h3,by omega,h5,by omega⟩
def j3o:Tr→Tr
 | .nd s n (.nd s1 n1 a b _ _) c _ _=>j0b s1 n1 a (j0b s n b c)
 |t=>t
def j3n:Tr→Tr
 | .nd s n a (.nd s1 n1 b c _ _) _ _=>j0b s1 n1 (j0b s n a b) c
 |t=>t
theorem jbS(s:List UInt8)(n:Int)(s1:List UInt8)(n1:Int)(a b:Tr)(d1 q1:Int)(c:Tr)(d q:Int)(m:Nat)(hm:m≤100000)(ha:a.ok m)(hb:b.ok m)(hc:c.ok m):Pf C1 309 [encR (.nd s n (.nd s1 n1 a b d1 q1) c d q)] [encR (j3o (.nd s n (.nd s1 n1 a b d1 q1) c d q))]:=by
 have h1:=j3p s n (.nd s1 n1 a b d1 q1) c d q b c m (by omega) hb hc
 have h2:=j3p s1 n1 a b d1 q1 a (j0b s n b c) (2*m+1) (by omega) (ha.up (by omega)) (j4l hb hc)
 have e:encR (.nd s n (.nd s1 n1 a b d1 q1) c d q)=.cp [sv s,iv n,.cp [sv s1,iv n1,encR a,encR b,iv d1,iv q1],encR c,iv d,iv q]:=rfl;have e':encR (.nd s1 n1 a b d1 q1)=.cp [sv s1,iv n1,encR a,encR b,iv d1,iv q1]:=rfl;rw[e] at h1⊢;rw[e'] at h2;simp only[j3o];rw[j3U s1] at h2⊢;rw[j3U s n b c] at h1 h2⊢;have e1:=j0U a;have e2:=j0U b;have e3:=j0U c;generalize encR a=wa at *;generalize encR b=wb at *;generalize encR c=wc at *;rcases e1 with rfl|⟨c1,rfl⟩<;>rcases e2 with rfl|⟨c2,rfl⟩<;>rcases e3 with rfl|⟨c3,rfl⟩
 all_goals
  refine j00 Tryz.func309 rfl rfl rfl ?_;repeat'(first|refine gU ?_|refine j01 h1 fun _=>?_|refine j01 h2 fun _=>?_|apply gK)<;>conv=>whnf
  rfl
theorem jbR(s:List UInt8)(n:Int)(a:Tr)(s1:List UInt8)(n1:Int)(b c:Tr)(d1 q1:Int)(d q:Int)(m:Nat)(hm:m≤100000)(ha:a.ok m)(hb:b.ok m)(hc:c.ok m):Pf C1 308 [encR (.nd s n a (.nd s1 n1 b c d1 q1) d q)] [encR (j3n (.nd s n a (.nd s1 n1 b c d1 q1) d q))]:=by
 have h1:=j3p s n a (.nd s1 n1 b c d1 q1) d q a b m (by omega) ha hb
 have h2:=j3p s1 n1 b c d1 q1 (j0b s n a b) c (2*m+1) (by omega) (j4l ha hb) (hc.up (by omega))
 have e:encR (.nd s n a (.nd s1 n1 b c d1 q1) d q)=.cp [sv s,iv n,encR a,.cp [sv s1,iv n1,encR b,encR c,iv d1,iv q1],iv d,iv q]:=rfl;have e':encR (.nd s1 n1 b c d1 q1)=.cp [sv s1,iv n1,encR b,encR c,iv d1,iv q1]:=rfl;rw[e] at h1⊢;rw[e'] at h2;simp only[j3n];rw[j3U s1] at h2⊢;rw[j3U s n a b] at h1 h2⊢;have e1:=j0U a;have e2:=j0U b;have e3:=j0U c;generalize encR a=wa at *;generalize encR b=wb at *;generalize encR c=wc at *;rcases e1 with rfl|⟨c1,rfl⟩<;>rcases e2 with rfl|⟨c2,rfl⟩<;>rcases e3 with rfl|⟨c3,rfl⟩
 all_goals
  refine j00 Tryz.func308 rfl rfl rfl ?_;repeat'(first|refine gU ?_|refine j01 h1 fun _=>?_|refine j01 h2 fun _=>?_|apply gK)<;>conv=>whnf
  rfl
def ja3(s:List UInt8):Tr→Tr
 | .nil=>.nil
 | .nd s1 n l r d q=>if s1=s then .nd s1 n l r d q else if Op.bytesLess s s1=true then ja3 s l else ja3 s r
def Tr.size:Tr→Nat
 | .nil=>0
 | .nd _ _ l r _ _=>l.size+r.size+1
theorem jpC(s:List UInt8)(t:Tr):Pf C1 127 [encR t,sv s] [encR (ja3 s t)]:=by
 refine j00 Tryz.func127 rfl rfl rfl ?_;all_goals try conv=>whnf
 refine j03 (G:=Tr) (fun g=>[(0,encR g)]) (fun _=>_) (fun g=>ja3 s g=ja3 s t) (fun g=>g.size) t rfl rfl rfl ?_
 intro g hg;cases g with
 |nil=>
  rw[←hg];repeat'(first|refine gU ?_|refine j3E (t:=.nil) ?_)<;>conv=>whnf
  all_goals rfl
 |nd s1 n l r d q=>
  rw[ja3] at hg;have e:encR (.nd s1 n l r d q)=.cp [sv s1,iv n,encR l,encR r,iv d,iv q]:=rfl;rw[e];repeat'(first|refine gU ?_|apply gM<;>intro h|refine j3E (t:=.nd s1 n l r d q) ?_|refine j8K ?_)<;>conv=>whnf
  ·have hs:s1=s:=by simpa using(by assumption:(s1 == s)=true)
   rw[if_pos hs] at hg;rw[←hg,e]
  ·have hs:¬s1=s:=by simpa using(by assumption:(s1 == s)=false)
   rw[if_neg hs,if_pos (by assumption)] at hg
   exact VAgain.mk _ rfl _ (j0X rfl) ⟨l,hg,by simp only[Tr.size];omega,rfl⟩
  ·have hs:¬s1=s:=by simpa using(by assumption:(s1 == s)=false)
   rw[if_neg hs,if_neg (by simp only[(by assumption:Op.bytesLess s s1=false)];simp)] at hg
   exact VAgain.mk _ rfl _ (j0X rfl) ⟨r,hg,by simp only[Tr.size];omega,rfl⟩
def getR(s:List UInt8)(t:Tr):Option Int:=match ja3 s t with
 | .nil=>none
 | .nd _ n _ _ _ _=>some n
def j8D(t:Tr):PV:=.cp [encR t]
def getV(o:Option Int):List PV:=match o with
 |none=>[iv 0,bv false]
 |some n=>[iv n,bv true]
theorem jh9(s:List UInt8)(t:Tr):Pf C1 79 [j8D t,sv s] (getV (getR s t)):=by
 have hf:=jpC s t;have e1:=j0U t;unfold getR j8D;generalize encR t=w at *;cases hF:ja3 s t with
 |nil=>
  rw[hF] at hf;rcases e1 with rfl|⟨c1,rfl⟩
  all_goals
   refine j00 Tryz.func79 rfl rfl rfl ?_;repeat'(first|refine gU ?_|refine gX hf ?_|refine j3E (t:=.nil) ?_)<;>conv=>whnf
   rfl
 |nd s1 n l r d q=>
  rw[hF] at hf;rcases e1 with rfl|⟨c1,rfl⟩
  all_goals
   refine j00 Tryz.func79 rfl rfl rfl ?_;repeat'(first|refine gU ?_|refine gX hf ?_|refine j3E (t:=.nd s1 n l r d q) ?_)<;>conv=>whnf
   rfl
open Go Go.Am Go.Gw
def Tr.lt:Tr→Tr
 | .nil=>.nil
 | .nd _ _ l _ _ _=>l
def Tr.rt:Tr→Tr
 | .nil=>.nil
 | .nd _ _ _ r _ _=>r
def jcm:Tr→Tr
 | .nil=>.nil
 | .nd s n l r d q=>if l.deep-r.deep=2 then j3o (if l.lt.deep<l.rt.deep then j0b s n (j3n l) r else .nd s n l r d q)
  else if l.deep-r.deep = -2 then j3n (if r.rt.deep<r.lt.deep then j0b s n l (j3o r) else .nd s n l r d q) else .nd s n l r d q
theorem jac(h:0<t.deep):∃s n l r d q,t=.nd s n l r d q:=by
 cases t with
 |nil=>simp[Tr.deep] at h
 |nd s n l r d q=>exact⟨_,_,_,_,_,_,rfl⟩
theorem jj1(s:List UInt8)(n:Int)(l r:Tr)(d q:Int)(m:Nat)(hm:m≤10000)(ho:(Tr.nd s n l r d q).ok m):Pf C1 271 [encR (.nd s n l r d q)] [encR (jcm (.nd s n l r d q))]:=by
 obtain⟨hol,hor,-⟩:=ho;have hbl:=hol.bd;have hbr:=hor.bd;have hl:=j4j l;have hr:=j4j r;rw[jcm]
 by_cases c1:l.deep-r.deep=2
 ·rw[if_pos c1];obtain⟨s1,n1,a,b,d1,q1,rfl⟩:=jac (t:=l) (by omega)
  have ha:=j4j a;have hb:=j4j b;obtain⟨hoa,hob,-⟩:=hol
  by_cases c2:a.deep<b.deep
  ·rw[if_pos (show(Tr.nd s1 n1 a b d1 q1).lt.deep<(Tr.nd s1 n1 a b d1 q1).rt.deep from c2)]
   have hba:=hoa.bd;obtain⟨s2,n2,b1,b2,d2,q2,rfl⟩:=jac (t:=b) (by omega)
   obtain⟨ho1,ho2,-⟩:=hob;have ht:=jbR s1 n1 a s2 n2 b1 b2 d2 q2 d1 q1 m (by omega) hoa ho1 ho2
   have hx1:=j4l (s:=s1) (n:=n1) hoa ho1;have hx2:=j4l (s:=s2) (n:=n2) hx1 (ho2.up (by omega))
   have hw:=j3p s n (.nd s1 n1 a (.nd s2 n2 b1 b2 d2 q2) d1 q1) r d q (j0b s2 n2 (j0b s1 n1 a b1) b2) r _ (by omega) hx2 (hor.up (by omega))
   have hT:=jbS s n s2 n2 (j0b s1 n1 a b1) b2 (d1:=(j0b s2 n2 (j0b s1 n1 a b1) b2).deep) (q1:=(j0b s2 n2 (j0b s1 n1 a b1) b2).count) (c:=r) (d:=(j0b s n (j0b s2 n2 (j0b s1 n1 a b1) b2) r).deep) (q:=(j0b s n (j0b s2 n2 (j0b s1 n1 a b1) b2) r).count) (m:=2*m+1) (by omega) hx1 (ho2.up (by omega)) (hor.up (by omega))
   have e0:j3n (.nd s1 n1 a (.nd s2 n2 b1 b2 d2 q2) d1 q1)=j0b s2 n2 (j0b s1 n1 a b1) b2:=rfl;have e3:Tr.nd s n (Tr.nd s2 n2 (j0b s1 n1 a b1) b2 (j0b s2 n2 (j0b s1 n1 a b1) b2).deep (j0b s2 n2 (j0b s1 n1 a b1) b2).count) r (j0b s n (j0b s2 n2 (j0b s1 n1 a b1) b2) r).deep (j0b s n (j0b s2 n2 (j0b s1 n1 a b1) b2) r).count=j0b s n (j0b s2 n2 (j0b s1 n1 a b1) b2) r:=rfl;rw[e3] at hT;rw[e0] at ht⊢;have e5:=j0U (j3o (j0b s n (j0b s2 n2 (j0b s1 n1 a b1) b2) r));generalize encR (j3o (j0b s n (j0b s2 n2 (j0b s1 n1 a b1) b2) r))=out at *;have e6:encR (j0b s n (j0b s2 n2 (j0b s1 n1 a b1) b2) r)=.cp [sv s,iv n,encR (j0b s2 n2 (j0b s1 n1 a b1) b2),encR r,iv ((if r.deep>(j0b s2 n2 (j0b s1 n1 a b1) b2).deep then r.deep else(j0b s2 n2 (j0b s1 n1 a b1) b2).deep)+1),iv ((j0b s2 n2 (j0b s1 n1 a b1) b2).count+r.count+1)]:=rfl
   have e7:encR (j0b s2 n2 (j0b s1 n1 a b1) b2)=.cp [sv s2,iv n2,encR (j0b s1 n1 a b1),encR b2,iv ((if b2.deep>(j0b s1 n1 a b1).deep then b2.deep else(j0b s1 n1 a b1).deep)+1),iv ((j0b s1 n1 a b1).count+b2.count+1)]:=rfl
   rw[e6] at hw hT;rw[e7] at ht hw hT;clear e6 e7 e3 e0;have e:encR (Tr.nd s n (Tr.nd s1 n1 a (Tr.nd s2 n2 b1 b2 d2 q2) d1 q1) r d q)=.cp [sv s,iv n,.cp [sv s1,iv n1,encR a,.cp [sv s2,iv n2,encR b1,encR b2,iv d2,iv q2],iv d1,iv q1],encR r,iv d,iv q]:=rfl;have e1:encR (Tr.nd s1 n1 a (Tr.nd s2 n2 b1 b2 d2 q2) d1 q1)=.cp [sv s1,iv n1,encR a,.cp [sv s2,iv n2,encR b1,encR b2,iv d2,iv q2],iv d1,iv q1]:=rfl;have e2:encR (Tr.nd s2 n2 b1 b2 d2 q2)=.cp [sv s2,iv n2,encR b1,encR b2,iv d2,iv q2]:=rfl;rw[e] at hw⊢;rw[e1] at hl ht;rw[e2] at hb;clear e e1 e2;have fa:=j1l a;have fr:=j1l r;generalize hwa:encR a=wa at *;generalize hwr:encR r=wr at *;rcases e5 with rfl|⟨co,rfl⟩<;>rcases fa with rfl|⟨ca,rfl⟩<;>rcases fr with rfl|⟨cr,rfl⟩<;>(try subst hwa)<;>(try subst hwr)
   all_goals
    refine j00 Tryz.func271 rfl rfl rfl ?_;repeat'(first|refine gU ?_|refine j01 hl fun _=>?_|refine j01 hr fun _=>?_|refine j01 ha fun _=>?_|refine j01 hb fun _=>?_|refine j01 ht fun _=>?_|refine j01 hw fun _=>?_|refine gX hT ?_|apply gK)<;>conv=>whnf
    rfl
  ·rw[if_neg (show ¬(Tr.nd s1 n1 a b d1 q1).lt.deep<(Tr.nd s1 n1 a b d1 q1).rt.deep from c2)]
   have hT:=jbS s n s1 n1 a b d1 q1 r d q m (by omega) hoa hob hor
   have e5:=j0U (j3o (.nd s n (.nd s1 n1 a b d1 q1) r d q));generalize encR (j3o (.nd s n (.nd s1 n1 a b d1 q1) r d q))=out at *;have e:encR (Tr.nd s n (Tr.nd s1 n1 a b d1 q1) r d q)=.cp [sv s,iv n,.cp [sv s1,iv n1,encR a,encR b,iv d1,iv q1],encR r,iv d,iv q]:=rfl;have e1:encR (Tr.nd s1 n1 a b d1 q1)=.cp [sv s1,iv n1,encR a,encR b,iv d1,iv q1]:=rfl;rw[e] at hT⊢;rw[e1] at hl;clear e e1;have fa:=j1l a;have fb:=j1l b;have fr:=j1l r;generalize hwa:encR a=wa at *;generalize hwb:encR b=wb at *;generalize hwr:encR r=wr at *;rcases e5 with rfl|⟨co,rfl⟩<;>rcases fa with rfl|⟨ca,rfl⟩<;>rcases fb with rfl|⟨cb,rfl⟩<;>rcases fr with rfl|⟨cr,rfl⟩<;>(try subst hwa)<;>(try subst hwb)<;>(try subst hwr)
   all_goals
    refine j00 Tryz.func271 rfl rfl rfl ?_;repeat'(first|refine gU ?_|refine j01 hl fun _=>?_|refine j01 hr fun _=>?_|refine j01 ha fun _=>?_|refine j01 hb fun _=>?_|refine gX hT ?_|apply gK)<;>conv=>whnf
    rfl
 ·rw[if_neg c1]
  by_cases c2:l.deep-r.deep = -2
  ·rw[if_pos c2];obtain⟨s1,n1,b,c,d1,q1,rfl⟩:=jac (t:=r) (by omega)
   have hb:=j4j b;have hc:=j4j c;obtain⟨hob,hoc,-⟩:=hor
   by_cases c3:c.deep<b.deep
   ·rw[if_pos (show(Tr.nd s1 n1 b c d1 q1).rt.deep<(Tr.nd s1 n1 b c d1 q1).lt.deep from c3)]
    have hbc:=hoc.bd;obtain⟨s2,n2,b1,b2,d2,q2,rfl⟩:=jac (t:=b) (by omega)
    obtain⟨ho1,ho2,-⟩:=hob;have ht:=jbS s1 n1 s2 n2 b1 b2 d2 q2 c d1 q1 m (by omega) ho1 ho2 hoc
    have hx1:=j4l (s:=s1) (n:=n1) ho2 hoc;have hx2:=j4l (s:=s2) (n:=n2) (ho1.up (by omega)) hx1
    have hw:=j3p s n l (.nd s1 n1 (.nd s2 n2 b1 b2 d2 q2) c d1 q1) d q l (j0b s2 n2 b1 (j0b s1 n1 b2 c)) _ (by omega) (hol.up (by omega)) hx2
    have hT:=jbR s n l s2 n2 b1 (j0b s1 n1 b2 c) (d1:=(j0b s2 n2 b1 (j0b s1 n1 b2 c)).deep) (q1:=(j0b s2 n2 b1 (j0b s1 n1 b2 c)).count) (d:=(j0b s n l (j0b s2 n2 b1 (j0b s1 n1 b2 c))).deep) (q:=(j0b s n l (j0b s2 n2 b1 (j0b s1 n1 b2 c))).count) (m:=2*m+1) (by omega) (hol.up (by omega)) (ho1.up (by omega)) hx1
    have e0:j3o (.nd s1 n1 (.nd s2 n2 b1 b2 d2 q2) c d1 q1)=j0b s2 n2 b1 (j0b s1 n1 b2 c):=rfl;have e3:Tr.nd s n l (Tr.nd s2 n2 b1 (j0b s1 n1 b2 c) (j0b s2 n2 b1 (j0b s1 n1 b2 c)).deep (j0b s2 n2 b1 (j0b s1 n1 b2 c)).count) (j0b s n l (j0b s2 n2 b1 (j0b s1 n1 b2 c))).deep (j0b s n l (j0b s2 n2 b1 (j0b s1 n1 b2 c))).count=j0b s n l (j0b s2 n2 b1 (j0b s1 n1 b2 c)):=rfl;rw[e3] at hT;rw[e0] at ht⊢;have e5:=j0U (j3n (j0b s n l (j0b s2 n2 b1 (j0b s1 n1 b2 c))));generalize encR (j3n (j0b s n l (j0b s2 n2 b1 (j0b s1 n1 b2 c))))=out at *;have e6:encR (j0b s n l (j0b s2 n2 b1 (j0b s1 n1 b2 c)))=.cp [sv s,iv n,encR l,encR (j0b s2 n2 b1 (j0b s1 n1 b2 c)),iv ((if(j0b s2 n2 b1 (j0b s1 n1 b2 c)).deep>l.deep then(j0b s2 n2 b1 (j0b s1 n1 b2 c)).deep else l.deep)+1),iv (l.count+(j0b s2 n2 b1 (j0b s1 n1 b2 c)).count+1)]:=rfl
    have e7:encR (j0b s2 n2 b1 (j0b s1 n1 b2 c))=.cp [sv s2,iv n2,encR b1,encR (j0b s1 n1 b2 c),iv ((if(j0b s1 n1 b2 c).deep>b1.deep then(j0b s1 n1 b2 c).deep else b1.deep)+1),iv (b1.count+(j0b s1 n1 b2 c).count+1)]:=rfl
    rw[e6] at hw hT;rw[e7] at ht hw hT;clear e6 e7 e3 e0;have e:encR (Tr.nd s n l (Tr.nd s1 n1 (Tr.nd s2 n2 b1 b2 d2 q2) c d1 q1) d q)=.cp [sv s,iv n,encR l,.cp [sv s1,iv n1,.cp [sv s2,iv n2,encR b1,encR b2,iv d2,iv q2],encR c,iv d1,iv q1],iv d,iv q]:=rfl;have e1:encR (Tr.nd s1 n1 (Tr.nd s2 n2 b1 b2 d2 q2) c d1 q1)=.cp [sv s1,iv n1,.cp [sv s2,iv n2,encR b1,encR b2,iv d2,iv q2],encR c,iv d1,iv q1]:=rfl;have e2:encR (Tr.nd s2 n2 b1 b2 d2 q2)=.cp [sv s2,iv n2,encR b1,encR b2,iv d2,iv q2]:=rfl;rw[e] at hw⊢;rw[e1] at hr ht;rw[e2] at hb;clear e e1 e2;have fc:=j1l c;have fl:=j1l l;generalize hwc:encR c=wc at *;generalize hwl:encR l=wl at *;rcases e5 with rfl|⟨co,rfl⟩<;>rcases fc with rfl|⟨cc,rfl⟩<;>rcases fl with rfl|⟨cl,rfl⟩<;>(try subst hwc)<;>(try subst hwl)
    all_goals
     refine j00 Tryz.func271 rfl rfl rfl ?_;repeat'(first|refine gU ?_|refine j01 hl fun _=>?_|refine j01 hr fun _=>?_|refine j01 hc fun _=>?_|refine j01 hb fun _=>?_|refine j01 ht fun _=>?_|refine j01 hw fun _=>?_|refine gX hT ?_|apply gK)<;>conv=>whnf
     rfl
   ·rw[if_neg (show ¬(Tr.nd s1 n1 b c d1 q1).rt.deep<(Tr.nd s1 n1 b c d1 q1).lt.deep from c3)]
    have hT:=jbR s n l s1 n1 b c d1 q1 d q m (by omega) hol hob hoc
    have e5:=j0U (j3n (.nd s n l (.nd s1 n1 b c d1 q1) d q));generalize encR (j3n (.nd s n l (.nd s1 n1 b c d1 q1) d q))=out at *;have e:encR (Tr.nd s n l (Tr.nd s1 n1 b c d1 q1) d q)=.cp [sv s,iv n,encR l,.cp [sv s1,iv n1,encR b,encR c,iv d1,iv q1],iv d,iv q]:=rfl;have e1:encR (Tr.nd s1 n1 b c d1 q1)=.cp [sv s1,iv n1,encR b,encR c,iv d1,iv q1]:=rfl;rw[e] at hT⊢;rw[e1] at hr;clear e e1;have fb:=j1l b;have fc:=j1l c;have fl:=j1l l;generalize hwb:encR b=wb at *;generalize hwc:encR c=wc at *;generalize hwl:encR l=wl at *;rcases e5 with rfl|⟨co,rfl⟩<;>rcases fb with rfl|⟨cb,rfl⟩<;>rcases fc with rfl|⟨cc,rfl⟩<;>rcases fl with rfl|⟨cl,rfl⟩<;>(try subst hwb)<;>(try subst hwc)<;>(try subst hwl)
    all_goals
     refine j00 Tryz.func271 rfl rfl rfl ?_;repeat'(first|refine gU ?_|refine j01 hl fun _=>?_|refine j01 hr fun _=>?_|refine j01 hb fun _=>?_|refine j01 hc fun _=>?_|refine gX hT ?_|apply gK)<;>conv=>whnf
     rfl
  ·rw[if_neg c2];have e:encR (.nd s n l r d q)=.cp [sv s,iv n,encR l,encR r,iv d,iv q]:=rfl;rw[e];have fl:=j1l l;have fr:=j1l r;generalize hwl:encR l=wl at *;generalize hwr:encR r=wr at *;rcases fl with rfl|⟨cl,rfl⟩<;>rcases fr with rfl|⟨cr,rfl⟩<;>(try subst hwl)<;>(try subst hwr)
   all_goals
    refine j00 Tryz.func271 rfl rfl rfl ?_;repeat'(first|refine gU ?_|refine j01 hl fun _=>?_|refine j01 hr fun _=>?_|apply gK)<;>conv=>whnf
open Go Go.Am Go.Gw
theorem jiw{cs:List PV}(h:jqd op false K):VRes (j0j C1.P op 149 x y (.cp cs) nilP) K:=by
 cases op with
 |eql=>exact⟨_,jru,h⟩
 |neq=>exact⟨_,jrv,h⟩
 |_=>exact h.elim
def putR(s:List UInt8)(n:Int):Tr→Tr
 | .nil=>j0b s n .nil .nil
 | .nd s1 n1 l r _ _=>if Op.bytesLess s s1=true then jcm (j0b s1 n1 (putR s n l) r) else if(!(Op.bytesLess s s1||s == s1))=true then jcm (j0b s1 n1 l (putR s n r)) else j0b s n l r
def jeL(s:List UInt8)(n:Int):Tr→Prop
 | .nil=>True
 | .nd _ _ l r _ _=>l.ok 4000∧r.ok 4000∧(putR s n l).ok 4000∧(putR s n r).ok 4000∧jeL s n l∧jeL s n r
theorem jsE(s:List UInt8)(n:Int)(t:Tr):jeL s n t→Pf C1 231 [encR t,sv s,iv n] [encR (putR s n t)]:=by
 induction t with
 |nil=>
  intro _;have hj:=jbQ s n .nil .nil 0 (by omega) trivial trivial
  refine j00 Tryz.func231 rfl rfl rfl ?_;repeat'(first|refine gU ?_|refine j3E (t:=.nil) ?_|refine gX hj ?_)<;>conv=>whnf
  rfl
 |nd s1 n1 l r d q ihl ihr=>
  rintro⟨hol,hor,hpl,hpr,hkl,hkr⟩;have hl:=ihl hkl;have hr:=ihr hkr;have w1:=j3p s1 n1 l r d q (putR s n l) r 4000 (by omega) hpl hor
  have w2:=j3p s1 n1 l r d q l (putR s n r) 4000 (by omega) hol hpr
  have v1:=jj1 s1 n1 (putR s n l) r (j0b s1 n1 (putR s n l) r).deep (j0b s1 n1 (putR s n l) r).count 8001 (by omega) (j4l (s:=s1) (n:=n1) hpl hor)
  have v2:=jj1 s1 n1 l (putR s n r) (j0b s1 n1 l (putR s n r)).deep (j0b s1 n1 l (putR s n r)).count 8001 (by omega) (j4l (s:=s1) (n:=n1) hol hpr)
  have hj:=jbQ s n l r 4000 (by omega) hol hor
  have e1:Tr.nd s1 n1 (putR s n l) r (j0b s1 n1 (putR s n l) r).deep (j0b s1 n1 (putR s n l) r).count=j0b s1 n1 (putR s n l) r:=rfl;have e2:Tr.nd s1 n1 l (putR s n r) (j0b s1 n1 l (putR s n r)).deep (j0b s1 n1 l (putR s n r)).count=j0b s1 n1 l (putR s n r):=rfl;rw[e1] at v1;rw[e2] at v2;clear e1 e2;rw[putR];have e:encR (.nd s1 n1 l r d q)=.cp [sv s1,iv n1,encR l,encR r,iv d,iv q]:=rfl;rw[e] at w1 w2⊢;rw[j3U] at w1 v1 w2 v2 hj;have fl:=j0U l;have fr:=j0U r
  by_cases c1:Op.bytesLess s s1=true
  ·rw[if_pos c1];have fp:=j0U (putR s n l);have fo:=j0U (jcm (j0b s1 n1 (putR s n l) r));generalize encR (jcm (j0b s1 n1 (putR s n l) r))=out at *;generalize encR (putR s n l)=wp at *;generalize encR l=wl at *;generalize encR r=wr at *;rcases fl with rfl|⟨cl,rfl⟩<;>rcases fr with rfl|⟨cr,rfl⟩<;>rcases fp with rfl|⟨cp,rfl⟩<;>rcases fo with rfl|⟨co,rfl⟩
   all_goals
    refine j00 Tryz.func231 rfl rfl rfl ?_;repeat'(first|refine gU ?_|refine jiw ?_|refine j8K ?_|refine j01 hl fun _=>?_|refine j01 w1 fun _=>?_|refine j01 v1 fun _=>?_|apply gK)<;>conv=>whnf
    all_goals first|rfl|(exfalso;simp_all;done)
  ·rw[if_neg c1]
   by_cases c2:(!(Op.bytesLess s s1||s == s1))=true
   ·rw[if_pos c2];have fp:=j0U (putR s n r);have fo:=j0U (jcm (j0b s1 n1 l (putR s n r)));generalize encR (jcm (j0b s1 n1 l (putR s n r)))=out at *;generalize encR (putR s n r)=wp at *;generalize encR l=wl at *;generalize encR r=wr at *;rcases fl with rfl|⟨cl,rfl⟩<;>rcases fr with rfl|⟨cr,rfl⟩<;>rcases fp with rfl|⟨cp,rfl⟩<;>rcases fo with rfl|⟨co,rfl⟩
    all_goals
     refine j00 Tryz.func231 rfl rfl rfl ?_;repeat'(first|refine gU ?_|apply gM<;>intro h|refine jiw ?_|refine j8K ?_|refine j01 hr fun _=>?_|refine j01 w2 fun _=>?_|refine j01 v2 fun _=>?_|apply gK)<;>conv=>whnf
     all_goals first|rfl|(exfalso;simp_all;done)
   ·rw[if_neg c2];rw[j3U];generalize encR l=wl at *;generalize encR r=wr at *;rcases fl with rfl|⟨cl,rfl⟩<;>rcases fr with rfl|⟨cr,rfl⟩
    all_goals
     refine j00 Tryz.func231 rfl rfl rfl ?_;repeat'(first|refine gU ?_|apply gM<;>intro h|refine jiw ?_|refine j8K ?_|refine j01 hj fun _=>?_|apply gK)<;>conv=>whnf
     all_goals first|rfl|(exfalso;simp_all;done)
theorem jrN(s:List UInt8)(n:Int)(t:Tr)(h:jeL s n t):Pf C1 174 [j8D t,sv s,iv n] [j8D (putR s n t)]:=by
 have hp:=jsE s n t h;unfold j8D;have e1:=j0U t;have e2:=j0U (putR s n t);generalize encR (putR s n t)=v at *;generalize encR t=w at *;rcases e1 with rfl|⟨c1,rfl⟩<;>rcases e2 with rfl|⟨c2,rfl⟩
 all_goals
  refine j00 Tryz.func174 rfl rfl rfl ?_;repeat'(first|refine gX hp ?_)<;>conv=>whnf
  exact j0n rfl rfl rfl rfl
theorem jil:Pf C1 104 [] [j8D .nil]:=by
 refine j00 Tryz.func104 rfl rfl rfl ?_;all_goals try conv=>whnf
 exact j0n rfl rfl rfl rfl
open Go Go.Am Go.Gw
structure En where
 kind:Int
 pars:Int
 nm:List UInt8
 ty:Tm
 val:Tm
 ht:Int
 fam:List UInt8
 fixd:Int
 idx:Int
 flds:Int
 ctors:List (List UInt8)
def EnP(e:En)(v:PV):Prop:=∃tk tn ts tb tz txs tc ty tys vk vn vs vb vz vxs vc vy vys b z,v=.ag [iv e.kind,iv e.pars,sv e.nm,iv tk,iv tn,sv ts,.sl tb tz txs,.sl tc ty tys,iv vk,iv vn,sv vs,.sl vb vz vxs,.sl vc vy vys,iv e.ht,sv e.fam,iv e.fixd,iv e.idx,iv e.flds,.sl b z (svs e.ctors)]
 ∧TmP e.ty (.ag [iv tk,iv tn,sv ts,.sl tb tz txs,.sl tc ty tys])∧TmP e.val (.ag [iv vk,iv vn,sv vs,.sl vb vz vxs,.sl vc vy vys])∧((z=1∧e.ctors≠[])∨(e.ctors=[]∧b=true∧z=0))∧e.nm.length≤140737488355328∧e.fam.length≤140737488355328∧e.ctors.length≤1000000∧∀s∈e.ctors,s.length≤140737488355328
def j4f(n a b:Int):Bool:=decide (a≤n)&&decide (n≤b)
theorem j6W(n a b:Int):Pf C1 125 [iv n,iv a,iv b] [bv (j4f n a b)]:=by
 unfold j4f;refine j00 Tryz.func125 rfl rfl rfl ?_;repeat'(first|refine gU ?_|apply gE<;>intro h)<;>conv=>whnf
 all_goals
  refine j2g ?_;rw[Bool.eq_iff_iff];simp;omega
def jfP(t:Tm):Bool:=eqTm t tz
theorem j5P:TmP tz (.ag zTm):=⟨true,0,[],true,0,[],rfl,.inr rfl,by simp[LvsP],by simp,.inr rfl,by simp[TmsP],by simp,by simp,by unfold i64;omega⟩
theorem jky(t:Tm)(v:PV)(h:TmP t v):Pf C1 266 [v] [bv (jfP t)]:=by
 have hs:=j7J t v h tz _ j5P;have e:jfP t=eqTm t tz:=rfl;rw[←e] at hs;clear e;obtain⟨k1,n1,s1,l1,t1,b1,z1,x1,c1,y1,ys1,rfl,rfl,-⟩:=h.open;refine j00 Tryz.func266 rfl rfl rfl ?_;repeat'(first|refine gU ?_|refine gX hs ?_)<;>conv=>whnf
 all_goals rfl
def j9C(e:En):Bool:=if e.kind=2∨e.kind=3∨e.kind=4 then j0w e.val e.pars 0 else if e.kind=6 then jfP e.val||j0w e.val (if 4<e.pars+1 then 4 else e.pars+1) 0 else jfP e.val
def job(e:En):Bool:=e.fam == []&&(decide (e.fixd=0)&&(decide (e.idx=0)&&decide (e.flds=0)))
theorem jlT(e:En)(v:PV)(h:EnP e v)(hp0:0≤e.pars)(hp4:e.pars≤4):Pf C1 228 [v] [bv (j9C e)]:=by
 obtain⟨kind,pars,nm,ty,val,ht,fam,fixd,idx,flds,ctors⟩:=e;dsimp only at hp0 hp4;obtain⟨tk,tn,ts,tb,tz',txs,tc,ty',tys,vk,vn,vs,vb,vz,vxs,vc,vy,vys,b,z,rfl,hty,hval,hz,hnm,hfam,hct,hcs⟩:=h;dsimp only at hty hval hz hnm hfam hct hcs⊢;have h1:=j0I val _ hval pars 0;have h2:=jky val _ hval;have h3:=j0I val _ hval (if 4<pars+1 then 4 else pars+1) 0
 unfold j9C;dsimp only;refine j00 Tryz.func228 rfl rfl rfl ?_;repeat'(first|refine gU ?_|apply gE<;>intro h|apply gM<;>intro h|refine gX h1 ?_|refine gX h2 ?_|refine gX h3 ?_)<;>conv=>whnf
 all_goals
  refine j2g ?_;clear h1 h2 h3
  simp_all
def j3j(e:En):Bool:=if e.kind=6∨e.kind=7 then decide (e.ht=0)&&(j2G e.fam&&(j4f e.fixd 0 32&&(j4f e.idx 0 32&&j4f e.flds 0 32)))
 else if e.kind=5 then decide (e.ht=0)&&(e.fam == []&&(j4f e.fixd 0 16&&(decide (e.idx=0)&&decide (e.flds=0))))
 else if e.kind=2 then j4f e.ht 1 1048576&&job e else decide (e.ht=0)&&job e
theorem jgu(e:En)(v:PV)(h:EnP e v):Pf C1 229 [v] [bv (j3j e)]:=by
 obtain⟨kind,pars,nm,ty,val,ht,fam,fixd,idx,flds,ctors⟩:=e;obtain⟨tk,tn,ts,tb,tz',txs,tc,ty',tys,vk,vn,vs,vb,vz,vxs,vc,vy,vys,b,z,rfl,hty,hval,hz,hnm,hfam,hct,hcs⟩:=h;dsimp only at hty hval hz hnm hfam hct hcs⊢;have h1:=j1W fam hfam;have h2:=fun n=>j6W n 0 32
 have h3:=j6W fixd 0 16;have h4:=j6W ht 1 1048576;unfold j3j job;dsimp only;refine j00 Tryz.func229 rfl rfl rfl ?_;repeat'(first|refine gU ?_|apply gE<;>intro h|apply gM<;>intro h|refine gX h1 ?_|refine gX (h2 _) ?_|refine gX h3 ?_|refine gX h4 ?_|refine j4n ?_)<;>conv=>whnf
 all_goals
  refine j2g ?_;clear h1 h2 h3 h4
  simp_all
def idxP(p:List UInt8→Bool):List (List UInt8)→Nat→Int
 |[],_=>-1
 |t::r,i=>if p t=true then i else idxP p r (i+1)
theorem jja(p:List UInt8→Bool):∀(ts:List (List UInt8)) (i:Nat),decide (0≤idxP p ts i)=ts.any p
 |[],i=>by simp[idxP]
 |t::r,i=>by
  rw[idxP,List.any_cons]
  by_cases h:p t=true
  ·rw[if_pos h,h];simp
  ·rw[if_neg h,jja p r,Bool.eq_false_iff.2 h];simp
theorem jhX(s:List UInt8)(hs:s.length≤140737488355328):Pf C1 267 [sv s] [bv (!j2G s)]:=by
 have h1:=j1W s hs;refine j00 Tryz.func267 rfl rfl rfl ?_;repeat'(first|refine gU ?_|refine gX h1 ?_)<;>conv=>whnf
 all_goals rfl
theorem jee(ts:List (List UInt8))(b:Bool)(z:Nat)(hz:z=1∨ts=[])(hbd:ts.length≤1000000)(hs:∀s∈ts,s.length≤140737488355328):Pf C1 305 [.sl b z (svs ts),.fn 267 [] []] [iv (idxP (fun s=>!j2G s) ts 0)]:=by
 have hlen:(svs ts).length=ts.length:=by simp
 refine j00 Tryz.func305 rfl rfl rfl ?_;all_goals try conv=>whnf
 refine j03 (G:=Nat) (fun i=>[(8,iv i)]) (fun _=>_) (fun i=>i≤ts.length∧idxP (fun s=>!j2G s) (ts.drop i) i=idxP (fun s=>!j2G s) ts 0) (fun i=>ts.length-i) 0 ⟨by omega,rfl⟩ rfl rfl ?_
 rintro i ⟨hi,hall⟩;dsimp only at hi hall⊢;repeat'(first|refine gU ?_|apply gE<;>intro h)<;>conv=>whnf
 ·have hi':i<ts.length:=by omega
  obtain⟨tc,htc⟩:∃tc,ts[i]?=some tc:=⟨_,List.getElem?_eq_getElem hi'⟩;have hw:=jhX tc (hs _ (List.mem_of_getElem? htc));rw[drop_at htc,idxP] at hall;repeat'(first|refine gU ?_|apply gM<;>intro h|refine VIdx.mk _ (jds htc) ?_|refine VOk.mk (j0N rfl (j7G hz)) ?_|refine gX hw ?_)<;>conv=>whnf
  ·rw[if_neg (by simp_all)] at hall
   exact VAgain.mk _ rfl _ (j0a rfl rfl rfl) ⟨i+1,⟨hi',hall⟩,by omega,rfl⟩
  ·rw[if_pos (by simp_all)] at hall
   rw[←hall]
 ·rw[List.drop_of_length_le (by omega),idxP] at hall
  rw[←hall]
theorem jdN(ts:List (List UInt8))(b:Bool)(z:Nat)(hz:z=1∨ts=[])(hbd:ts.length≤1000000)(hs:∀s∈ts,s.length≤140737488355328):Pf C1 268 [.sl b z (svs ts),.fn 267 [] []] [bv (!ts.all j2G)]:=by
 have hi:=jee ts b z hz hbd hs;have e:decide (0≤idxP (fun t=>!j2G t) ts 0) = !ts.all j2G:=by
  rw[jja];clear hi hbd hs hz
  induction ts with
  |nil=>rfl
  |cons t r ih=>
   rw[List.any_cons,List.all_cons];cases j2G t<;>simp_all
 refine j00 Tryz.func268 rfl rfl rfl ?_;repeat'(first|refine gU ?_|refine gX hi ?_)<;>conv=>whnf
 rw[←e]
def j9m(e:En):Bool:=if e.kind=5∨e.kind=7 then decide (e.ctors.length≤8)&&e.ctors.all j2G else decide (e.ctors.length=0)
theorem jl5(e:En)(v:PV)(h:EnP e v):Pf C1 230 [v] [bv (j9m e)]:=by
 obtain⟨kind,pars,nm,ty,val,ht,fam,fixd,idx,flds,ctors⟩:=e;obtain⟨tk,tn,ts,tb,tz',txs,tc,ty',tys,vk,vn,vs,vb,vz,vxs,vc,vy,vys,b,z,rfl,hty,hval,hz,hnm,hfam,hct,hcs⟩:=h;dsimp only at hty hval hz hnm hfam hct hcs⊢;have hz:z=1∨ctors=[]:=hz.imp (·.1) (·.1)
 have h1:=jdN ctors b z hz hct hcs;have hlen:(svs ctors).length=ctors.length:=by simp
 unfold j9m;dsimp only;refine j00 Tryz.func230 rfl rfl rfl ?_;repeat'(first|refine gU ?_|apply gE<;>intro h|refine gX h1 ?_)<;>conv=>whnf
 all_goals
  refine j2g ?_;clear h1;first
   |(simp_all;done)
   |(simp_all;intro _;omega)
   |(simp_all;intro _;exfalso;omega)
def j1u(e:En):Bool:=j4f e.kind 1 7&&(j2G e.nm&&(j4f e.pars 0 4&&(j0w e.ty e.pars 0&&(j9C e&&(j3j e&&j9m e)))))
theorem j5l(e:En)(v:PV)(h:EnP e v):Pf C1 173 [v] [bv (j1u e)]:=by
 have hv:=fun a b=>jlT e v h a b
 have hn:=jgu e v h;have hl:=jl5 e v h;have e0:j1u e=(j4f e.kind 1 7&&(j2G e.nm&&(j4f e.pars 0 4&&(j0w e.ty e.pars 0&&(j9C e&&(j3j e&&j9m e)))))):=rfl;rw[e0];clear e0;generalize j9C e=q1 at *;generalize j3j e=q2 at *;generalize j9m e=q3 at *;obtain⟨kind,pars,nm,ty,val,ht,fam,fixd,idx,flds,ctors⟩:=e;obtain⟨tk,tn,ts,tb,tz',txs,tc,ty',tys,vk,vn,vs,vb,vz,vxs,vc,vy,vys,b,z,rfl,hty,hval,hz,hnm,hfam,hct,hcs⟩:=h;dsimp only at hty hval hz hnm hfam hct hcs hv⊢;have h1:=j6W kind 1 7;have h2:=j1W nm hnm;have h3:=j6W pars 0 4;have h4:=j0I ty _ hty pars 0
 by_cases c3:j4f pars 0 4=true
 ·have hv:=hv (by simp[j4f] at c3;omega) (by simp[j4f] at c3;omega)
  rw[c3] at h3⊢;refine j00 Tryz.func173 rfl rfl rfl ?_;repeat'(first|refine gU ?_|apply gM<;>intro h|refine gX h1 ?_|refine gX h2 ?_|refine gX h3 ?_|refine gX h4 ?_|refine gX hv ?_|refine gX hn ?_|refine gX hl ?_)<;>conv=>whnf
  all_goals
   refine j2g ?_;clear h1 h2 h3 h4 hv hn hl
   simp_all
 ·rw[Bool.not_eq_true] at c3;rw[c3] at h3⊢;refine j00 Tryz.func173 rfl rfl rfl ?_;repeat'(first|refine gU ?_|apply gM<;>intro h|refine gX h1 ?_|refine gX h2 ?_|refine gX h3 ?_)<;>conv=>whnf
  all_goals
   refine j2g ?_;clear h1 h2 h3 h4 hv hn hl
   simp_all
open Go Go.Am Go.Gw
def jt9(b:Bool)(z:Nat)(xs:List PV):PV:=.fn 298 [] [.cp [.sl b z xs]]
theorem jdz(b:Bool)(z:Nat)(xs:List PV):Pf C1 259 [.sl b z xs] [jt9 b z xs]:=by
 refine j00 Tryz.func259 rfl rfl rfl ?_;all_goals try conv=>whnf
 refine j0n rfl rfl rfl ?_;rfl
structure TV where
 k:Int
 n:Int
 s:List UInt8
 b:Bool
 z:Nat
 xs:List PV
 c:Bool
 y:Nat
 ys:List PV
def TV.cs(w:TV):List PV:=[iv w.k,iv w.n,sv w.s,.sl w.b w.z w.xs,.sl w.c w.y w.ys]
def overR(kind:Int):List Tm→Tm→Tm
 |[],o=>o
 |x::r,o=>overR kind r (.mk kind 0 [] [] [x,o])
def ovLP(q e:TV)(b:Bool)(z:Nat)(xs:List PV)(kind:Int)(a c:Code)(s:LpS):SO:=.lp [(13,jt9 b z xs),(12,.sl b z xs),(7,.bp 1 0),(11,.ag e.cs),(10,.ag q.cs),(6,.bp 2 0),(4,.bp 3 0),(3,.bp 4 0),(0,iv kind),(1,.ag q.cs),(2,.sl b z xs)] [14,15] a c s
def ovS(lp:SO)(q:TV)(kind:Int)(w:TV):Sto:=[lp,.box 25 w.cs,.box 25 zTm,.box 25 q.cs,.box 3 [iv kind]]
def OvOk(lp:LpS→SO)(q:TV)(kind:Int):Prop:=∀(i:Int) (x:Tm) (v:PV),TmP x v→∀(o:Tm) (w:TV),TmP o (.ag w.cs)→FindsY C1 [.yl 0,iv i,v] (ovS (lp .ready) q kind w) fun r st=>r=.ret [bv true]∧∃w',TmP (.mk kind 0 [] [] [x,o]) (.ag (TV.cs w'))∧st=ovS (lp .ready) q kind w'
theorem jkl(q e:TV)(kind:Int)(b:Bool)(z:Nat)(xs:List PV)(l:List Tm)(hz:z=5∨xs=[])(hxs:TmsP l xs)(hl:l.length≤1000000)(a c:Code)(hY:OvOk (ovLP q e b z xs kind a c) q kind)(o0:Tm)(w0:TV)(hw0:TmP o0 (.ag w0.cs)):
  Finds C1 298 [.yl 0,.cp [.sl b z xs]] (ovS (ovLP q e b z xs kind a c .ready) q kind w0) fun r st=>r=.ret []∧∃w',TmP (overR kind l.reverse o0) (.ag (TV.cs w'))∧st=ovS (ovLP q e b z xs kind a c .ready) q kind w':=by
 have hlen:=hxs.len;refine j00 Tryz.func298 rfl rfl rfl ?_;repeat'(refine gU ?_)<;>conv=>whnf
 refine j03 (G:=Nat×Tm×TV) (fun g=>[(3,iv ((g.1:Int)-1))]) (fun g=>ovS (ovLP q e b z xs kind a c .ready) q kind g.2.2) (fun g=>g.1≤l.length∧TmP g.2.1 (.ag g.2.2.cs)∧overR kind (l.take g.1).reverse g.2.1=overR kind l.reverse o0) (fun g=>g.1) (xs.length,o0,w0) ⟨by dsimp only;omega,hw0,by dsimp only;rw[List.take_of_length_le (by omega)]⟩ rfl rfl ?_
 rintro⟨k,o,w⟩ ⟨hk,hw,hcl⟩;dsimp only at hk hw hcl⊢;repeat'(first|refine gU ?_|apply gE<;>intro h)<;>conv=>whnf
 ·obtain⟨j,rfl⟩:∃j,k=j+1:=⟨k-1,by omega⟩
  obtain⟨x,hx⟩:∃x,l[j]?=some x:=⟨_,List.getElem?_eq_getElem (by omega)⟩
  obtain⟨v,hv,hlo⟩:=hxs.at hx;have hy:=hY ((((j+1:Nat):Int))-1) x v hlo o w hw;have hti:(((j+1:Nat):Int)-1).toNat=j:=by omega
  have hcl2:overR kind (l.take j).reverse (.mk kind 0 [] [] [x,o])=overR kind l.reverse o0:=by
   rw[←hcl,take_snoc' hx,List.reverse_append];rfl
  obtain⟨k1,n1,s1,l1,t1,b1,z1,x1,c1,y1,ys1,rfl,rfl,-⟩:=hlo.open;refine VNat.nonneg (by omega) ?_
  rw[hti];repeat'(first|refine VIdx.mk _ hv ?_|refine gZ hz ?_)<;>conv=>whnf
  refine j2W rfl (.cons (j0H rfl rfl) (.cons (j05 rfl rfl) (.cons (j05 rfl rfl) (.cons (j05 rfl rfl) (.cons (j05 rfl rfl) .nil))))) rfl rfl rfl rfl (j1O hy ?_);rintro r st ⟨rfl,w',hw',rfl⟩;refine j1K (st':=ovS (ovLP q e b z xs kind a c .ready) q kind w') (.cons (j0H rfl rfl) (.cons (j05 rfl rfl) (.cons (j05 rfl rfl) (.cons (j05 rfl rfl) (.cons (j05 rfl rfl) .nil))))) rfl rfl (by kernel_rfl) ?_
  repeat'(refine gU ?_)<;>conv=>whnf
  have ei:((j+1:Nat):Int)-1-1=(j:Int)-1:=by omega
  rw[ei];exact VAgain.mk _ rfl _ (j0X rfl) ⟨(j,_,w'),⟨by omega,hw',hcl2⟩,by omega,rfl⟩
 ·obtain rfl:k=0:=by omega
  rw[List.take_zero,List.reverse_nil,overR] at hcl;rw[←hcl];exact⟨rfl,w,hw,rfl⟩
theorem jqj(kind:Int)(t:Tm)(v:PV)(h:TmP t v)(l:List Tm)(b:Bool)(z:Nat)(xs:List PV)(hz:z=5∨xs=[])(hxs:TmsP l xs)(hl:l.length≤1000000):RT 215 [iv kind,v,.sl b z xs] (overR kind l.reverse t):=by
 have hf:=j3g t v h;have hbk:=jdz b z xs;have hte:=h.w;unfold TmW at hte;obtain⟨k2,n2,s2,b2,z2,x2,c2,y2,ys2,he⟩:=j07 t;rw[he] at hf hte;obtain⟨k0,nn0,s0,ls0,ts0,b0,z0,xs0,c0,y0,ys0,rfl,rfl,-⟩:=h.open;have hmain:Finds C1 215 [iv kind,.ag [iv k0,iv nn0,sv s0,.sl b0 z0 xs0,.sl c0 y0 ys0],.sl b z xs] [] fun r _=>∃w,TmP (overR kind l.reverse (.mk k0 nn0 s0 ls0 ts0)) w∧r=.ret [w]:=by
  refine j00 Tryz.func215 rfl rfl rfl ?_;repeat'(first|refine gU ?_|refine gX hf ?_|refine gX hbk ?_)<;>conv=>whnf
  refine j0W (st0:=ovS (ovLP ⟨k0,nn0,s0,b0,z0,xs0,c0,y0,ys0⟩ ⟨k2,n2,s2,b2,z2,x2,c2,y2,ys2⟩ b z xs kind _ _ .ready) ⟨k0,nn0,s0,b0,z0,xs0,c0,y0,ys0⟩ kind ⟨k2,n2,s2,b2,z2,x2,c2,y2,ys2⟩) (args0:=[.yl 0,.cp [.sl b z xs]]) rfl rfl (.cons (j05 rfl rfl) (.cons (j05 rfl rfl) (.cons (j05 rfl rfl) (.cons (j05 rfl rfl) (.cons (j0H rfl rfl) .nil))))) rfl rfl rfl rfl (Finds.mono (jkl ⟨k0,nn0,s0,b0,z0,xs0,c0,y0,ys0⟩ ⟨k2,n2,s2,b2,z2,x2,c2,y2,ys2⟩ kind b z xs l hz hxs hl _ _ ?_ (.mk k0 nn0 s0 ls0 ts0) ⟨k2,n2,s2,b2,z2,x2,c2,y2,ys2⟩ hte) ?_)
  ·intro i x v hlo o w hw;have hfx:=j3g x v hlo;have hxw:=hlo.w;unfold TmW at hxw;obtain⟨k8,n8,s8,b8,z8,x8,c8,y8,ys8,he8⟩:=j07 x;rw[he8] at hfx hxw;obtain⟨k1,n1,s1,l1,t1,b1,z1,x1,c1,y1,ys1,rfl,rfl,-⟩:=hlo.open;refine j1U rfl rfl ?_;repeat'(first|refine gU ?_|refine j01 hfx fun _=>?_|apply gK)<;>conv=>whnf
   refine⟨rfl,⟨kind,0,[],true,0,[],true,5,[.ag [iv k8,iv n8,sv s8,.sl b8 z8 x8,.sl c8 y8 ys8],.ag w.cs]⟩,joP hxw hw true,by kernel_rfl⟩
  ·rintro r st ⟨rfl,w',hw',rfl⟩;refine j4d (.cons (j0H rfl rfl) (.cons (j05 rfl rfl) (.cons (j05 rfl rfl) (.cons (j05 rfl rfl) (.cons (j05 rfl rfl) .nil))))) rfl ?_;repeat'(refine gU ?_)<;>conv=>whnf
   exact⟨_,hw',rfl⟩
 obtain⟨r,st,⟨w,hw,rfl⟩,N,hN⟩:=hmain;exact⟨w,hw,⟨_,st,rfl,N,hN⟩⟩
theorem jr8(t:Tm)(v:PV)(h:TmP t v)(l:List Tm)(b:Bool)(z:Nat)(xs:List PV)(hz:z=5∨xs=[])(hxs:TmsP l xs)(hl:l.length≤1000000):RT 158 [v,.sl b z xs] (overR 6 l.reverse t):=by
 obtain⟨w,hw,hp⟩:=jqj 6 t v h l b z xs hz hxs hl;refine⟨w,hw,?_⟩;obtain⟨k1,n1,s1,l1,t1,b1,z1,x1,c1,y1,ys1,rfl,rfl,-⟩:=h.open;cases hw.c;refine j00 Tryz.func158 rfl rfl rfl ?_;repeat'(first|refine gU ?_|refine gX hp ?_)<;>conv=>whnf
 all_goals rfl
end Go.Proofs.YtbnodhcijeaceaaGreatDoor

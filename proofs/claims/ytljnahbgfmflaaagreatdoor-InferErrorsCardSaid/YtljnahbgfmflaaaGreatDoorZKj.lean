/-
  Sorted maps that never change (package tree). No statement of the seat.
-/
import Derived.Test.YtljnahbgfmflaaaGreatDoorZTf
import Derived.Test.YtljnahbgfmflaaaGreatDoorZSh
set_option linter.unusedVariables false
set_option maxHeartbeats 2000000
set_option maxRecDepth 100000
set_option linter.unusedSimpArgs false
set_option linter.unnecessarySimpa false
namespace Go.Proofs.YtljnahbgfmflaaaGreatDoor
open Go Go.Am Go.Gw
inductive Tr where
 |nil
 |nd (s:List UInt8) (n:Int) (l r:Tr) (d q:Int)
abbrev nilP:PV:=.sc (.pointer none)
def encR:Tr→PV
 | .nil=>nilP
 | .nd s n l r d q=>.cp [sv s,iv n,encR l,encR r,iv d,iv q]
def Tr.deep:Tr→Int
 | .nil=>0
 | .nd _ _ _ _ d _=>d
def Tr.count:Tr→Int
 | .nil=>0
 | .nd _ _ _ _ _ q=>q
def j0f (s:List UInt8) (n:Int) (l r:Tr):Tr:=.nd s n l r ((if r.deep > l.deep then r.deep else l.deep) + 1) (l.count + r.count + 1)
def Tr.ok:Tr→Nat→Prop
 | .nil,_=>True
 | .nd _ _ l r d q,m=>l.ok m∧r.ok m∧0 ≤ d∧d ≤ m∧0 ≤ q∧q ≤ m
theorem slss {P:Program} {T:TypeId} {x y:Operand} {a b:List UInt8}:j0l P .lss T x y (sv a) (sv b)=some (bv (Op.bytesLess a b)):=by
 simp only [j0l,j5I,eqGuard,binOp,Op.stringOp,j7b]
 rfl
theorem sgtr {P:Program} {T:TypeId} {x y:Operand} {a b:List UInt8}:j0l P .gtr T x y (sv a) (sv b)=some (bv (!(Op.bytesLess a b || a == b))):=by
 simp only [j0l,j5I,eqGuard,binOp,Op.stringOp,j7b]
 rfl
def jpI (op:BinOp) (a b:List UInt8) (K:PV→Prop):Prop:=match op with
 | .eql=>K (bv (a == b))
 | .neq=>K (bv (!(a == b)))
 | .lss=>K (bv (Op.bytesLess a b))
 | .gtr=>K (bv (!(Op.bytesLess a b || a == b)))
 |_=>False
theorem j7d {P:Program} {op:BinOp} {T:TypeId} {x y:Operand} {a b:List UInt8} {K:PV→Prop} (h:jpI op a b K):VRes (j0l P op T x y (sv a) (sv b)) K:=by
 cases op with
 |eql=>exact ⟨_,seql,h⟩
 |neq=>exact ⟨_,sneq,h⟩
 |lss=>exact ⟨_,slss,h⟩
 |gtr=>exact ⟨_,sgtr,h⟩
 |_=>exact h.elim
def Tr.isNil:Tr→Bool
 | .nil=>true
 |_=>false
theorem jqa {x y:Operand}:j0l C1.P .eql 151 x y nilP nilP=some (bv true):=by kernel_rfl
theorem jpW {x y:Operand}:j0l C1.P .neq 151 x y nilP nilP=some (bv false):=by kernel_rfl
theorem jnO {x y:Operand} {cs:List PV}:j0l C1.P .eql 151 x y (.cp cs) nilP=some (bv false):=by kernel_rfl
theorem jnP {x y:Operand} {cs:List PV}:j0l C1.P .neq 151 x y (.cp cs) nilP=some (bv true):=by kernel_rfl
def jlX (op:BinOp) (b:Bool) (K:PV→Prop):Prop:=match op with
 | .eql=>K (bv b)
 | .neq=>K (bv (!b))
 |_=>False
theorem j2Q {op:BinOp} {x y:Operand} {t:Tr} {K:PV→Prop} (h:jlX op t.isNil K):VRes (j0l C1.P op 151 x y (encR t) nilP) K:=by
 cases op with
 |eql=>cases t with
  |nil=>exact ⟨_,jqa,h⟩
  |nd s n l r d q=>exact ⟨_,jnO,h⟩
 |neq=>cases t with
  |nil=>exact ⟨_,jpW,h⟩
  |nd s n l r d q=>exact ⟨_,jnP,h⟩
 |_=>exact h.elim
theorem j3x (t:Tr):Pf C1 244 [encR t] [iv t.deep]:=by
 cases t with
 |nil =>
  refine j00 Tryz.func244 rfl rfl rfl ?_
  repeat' ((conv=>whnf);first|apply gT|refine j04 rfl ?_|refine j2Q (t:=.nil) ?_)
  all_goals (try (conv=>whnf))
  all_goals rfl
 |nd s n l r d q =>
  refine j00 Tryz.func244 rfl rfl rfl ?_
  repeat' ((conv=>whnf);first|apply gF|refine j04 rfl ?_|refine j2Q (t:=.nd s n l r d q) ?_)
  all_goals (try (conv=>whnf))
  all_goals rfl
theorem jaK (t:Tr):Pf C1 245 [encR t] [iv t.count]:=by
 cases t with
 |nil =>
  refine j00 Tryz.func245 rfl rfl rfl ?_
  repeat' ((conv=>whnf);first|apply gT|refine j04 rfl ?_|refine j2Q (t:=.nil) ?_)
  all_goals (try (conv=>whnf))
  all_goals rfl
 |nd s n l r d q =>
  refine j00 Tryz.func245 rfl rfl rfl ?_
  repeat' ((conv=>whnf);first|apply gF|refine j04 rfl ?_|refine j2Q (t:=.nd s n l r d q) ?_)
  all_goals (try (conv=>whnf))
  all_goals rfl
theorem Tr.ok.bd {t:Tr} {m:Nat} (h:t.ok m):0 ≤ t.deep∧t.deep ≤ m∧0 ≤ t.count∧t.count ≤ m:=by
 cases t with
 |nil=>simp [Tr.deep,Tr.count]
 |nd s n l r d q=>obtain ⟨-,-,h1,h2,h3,h4⟩:=h; exact ⟨h1,h2,h3,h4⟩
theorem j0X (t:Tr):t = .nil∨∃ cs,encR t = .cp cs:=by
 cases t with
 |nil=>exact .inl rfl
 |nd s n l r d q=>exact .inr ⟨_,rfl⟩
theorem j9r (s:List UInt8) (n:Int) (l r:Tr) (m:Nat) (hm:m ≤ 1000000) (hol:l.ok m) (hor:r.ok m):Pf C1 211 [sv s,iv n,encR l,encR r] [encR (j0f s n l r)]:=by
 have h1:=j3x l
 have h2:=j3x r
 have h3:=jaK l
 have h4:=jaK r
 obtain ⟨a1,a2,a3,a4⟩:=hol.bd
 obtain ⟨b1,b2,b3,b4⟩:=hor.bd
 have e:encR (j0f s n l r) = .cp [sv s,iv n,encR l,encR r,iv ((if r.deep > l.deep then r.deep else l.deep) + 1),iv (l.count + r.count + 1)]:=rfl
 rw [e]
 clear e
 have hif:0 ≤ (if r.deep > l.deep then r.deep else l.deep)∧(if r.deep > l.deep then r.deep else l.deep) ≤ m:=by split <;> omega
 rcases j0X l with hl|⟨cl,hl⟩ <;> rcases j0X r with hr|⟨cr,hr⟩
 ·subst hl
  subst hr
  refine j00 Tryz.func211 rfl rfl rfl ?_
  repeat' ((conv=>whnf);first|refine gV ?_|refine j01 h1 rfl rfl ?_|refine j01 h3 rfl rfl ?_)
  all_goals (try (conv=>whnf))
  exact j0s rfl rfl rfl rfl
 ·subst hl
  rw [hr] at h2 h4 ⊢
  refine j00 Tryz.func211 rfl rfl rfl ?_
  repeat' ((conv=>whnf);first|refine gV ?_|refine j01 h1 rfl rfl ?_|refine j01 h2 rfl rfl ?_|refine j01 h3 rfl rfl ?_|refine j01 h4 rfl rfl ?_)
  all_goals (try (conv=>whnf))
  exact j0s rfl rfl rfl rfl
 ·subst hr
  rw [hl] at h1 h3 ⊢
  refine j00 Tryz.func211 rfl rfl rfl ?_
  repeat' ((conv=>whnf);first|refine gV ?_|refine j01 h1 rfl rfl ?_|refine j01 h2 rfl rfl ?_|refine j01 h3 rfl rfl ?_|refine j01 h4 rfl rfl ?_)
  all_goals (try (conv=>whnf))
  exact j0s rfl rfl rfl rfl
 ·rw [hl] at h1 h3 ⊢
  rw [hr] at h2 h4 ⊢
  refine j00 Tryz.func211 rfl rfl rfl ?_
  repeat' ((conv=>whnf);first|refine gV ?_|refine j01 h1 rfl rfl ?_|refine j01 h2 rfl rfl ?_|refine j01 h3 rfl rfl ?_|refine j01 h4 rfl rfl ?_)
  all_goals (try (conv=>whnf))
  exact j0s rfl rfl rfl rfl
def ptr (v:PV):Prop:=v=nilP∨∃ cs,v = .cp cs
theorem j0K (t:Tr):ptr (encR t):=by
 cases t with
 |nil=>exact .inl rfl
 |nd s n l r d q=>exact .inr ⟨_,rfl⟩
theorem ptr.pure {v:PV} (h:ptr v):∀ n,pur (n + 1) v=true:=by
 rcases h with rfl|⟨cs,rfl⟩ <;> intro n <;> rfl
theorem j3h (s:List UInt8) (n:Int) (l r:Tr):encR (j0f s n l r) = .cp [sv s,iv n,encR l,encR r,iv ((if r.deep > l.deep then r.deep else l.deep) + 1),iv (l.count + r.count + 1)]:=rfl
theorem j2z (s:List UInt8) (n:Int) (l0 r0:Tr) (d q:Int) (l r:Tr) (m:Nat) (hm:m ≤ 1000000) (hol:l.ok m) (hor:r.ok m):Pf C1 212 [encR (.nd s n l0 r0 d q),encR l,encR r] [encR (j0f s n l r)]:=by
 have hj:=j9r s n l r m hm hol hor
 have e:encR (.nd s n l0 r0 d q) = .cp [sv s,iv n,encR l0,encR r0,iv d,iv q]:=rfl
 rw [e]
 rw [j3h] at hj ⊢
 have e1:=j0K l
 have e2:=j0K r
 generalize encR l=wl at *
 generalize encR r=wr at *
 generalize encR l0=wl0 at *
 generalize encR r0=wr0 at *
 rcases e1 with rfl|⟨c1,rfl⟩ <;> rcases e2 with rfl|⟨c2,rfl⟩
 all_goals
  refine j00 Tryz.func212 rfl rfl rfl ?_
  repeat' ((conv=>whnf);first|apply gO|apply gP|refine j04 rfl ?_|refine j05 hj (fun _=>?_)|apply gK)
  all_goals (try (conv=>whnf))
  rfl
theorem j3p {s:List UInt8} {n:Int} {l r:Tr} {m:Nat} (hol:l.ok m) (hor:r.ok m):(j0f s n l r).ok (2 * m + 1):=by
 have up:∀ {t:Tr} {m k:Nat},m ≤ k→t.ok m→t.ok k:=by
  intro t m k hk
  induction t with
  |nil=>intro _; trivial
  |nd s n l r d q ihl ihr =>
   rintro ⟨h1,h2,h3,h4,h5,h6⟩
   exact ⟨ihl h1,ihr h2,h3,by omega,h5,by omega⟩
 obtain ⟨a1,a2,a3,a4⟩:=hol.bd
 obtain ⟨b1,b2,b3,b4⟩:=hor.bd
 have hif:0 ≤ (if r.deep > l.deep then r.deep else l.deep)∧(if r.deep > l.deep then r.deep else l.deep) ≤ m:=by split <;> omega
 exact ⟨up (by omega) hol,up (by omega) hor,by omega,by omega,by omega,by omega⟩
theorem Tr.ok.up {t:Tr} {m k:Nat} (hk:m ≤ k):t.ok m→t.ok k:=by
 induction t with
 |nil=>intro _; trivial
 |nd s n l r d q ihl ihr =>
  rintro ⟨h1,h2,h3,h4,h5,h6⟩
  exact ⟨ihl h1,ihr h2,h3,by omega,h5,by omega⟩
def j6Z:Tr→Tr
 | .nd s n (.nd s1 n1 a b _ _) c _ _=>j0f s1 n1 a (j0f s n b c)
 |t=>t
def j6t:Tr→Tr
 | .nd s n a (.nd s1 n1 b c _ _) _ _=>j0f s1 n1 (j0f s n a b) c
 |t=>t
theorem j9K (s:List UInt8) (n:Int) (s1:List UInt8) (n1:Int) (a b:Tr) (d1 q1:Int) (c:Tr) (d q:Int) (m:Nat) (hm:m ≤ 100000) (ha:a.ok m) (hb:b.ok m) (hc:c.ok m):Pf C1 247 [encR (.nd s n (.nd s1 n1 a b d1 q1) c d q)] [encR (j6Z (.nd s n (.nd s1 n1 a b d1 q1) c d q))]:=by
 have h1:=j2z s n (.nd s1 n1 a b d1 q1) c d q b c m (by omega) hb hc
 have h2:=j2z s1 n1 a b d1 q1 a (j0f s n b c) (2 * m + 1) (by omega) (ha.up (by omega)) (j3p hb hc)
 have e:encR (.nd s n (.nd s1 n1 a b d1 q1) c d q) = .cp [sv s,iv n,.cp [sv s1,iv n1,encR a,encR b,iv d1,iv q1],encR c,iv d,iv q]:=rfl
 have e':encR (.nd s1 n1 a b d1 q1) = .cp [sv s1,iv n1,encR a,encR b,iv d1,iv q1]:=rfl
 rw [e] at h1 ⊢
 rw [e'] at h2
 simp only [j6Z]
 rw [j3h s1] at h2 ⊢
 rw [j3h s n b c] at h1 h2 ⊢
 have e1:=j0K a
 have e2:=j0K b
 have e3:=j0K c
 generalize encR a=wa at *
 generalize encR b=wb at *
 generalize encR c=wc at *
 rcases e1 with rfl|⟨c1,rfl⟩ <;> rcases e2 with rfl|⟨c2,rfl⟩ <;> rcases e3 with rfl|⟨c3,rfl⟩
 all_goals
  refine j00 Tryz.func247 rfl rfl rfl ?_
  repeat' ((conv=>whnf);first|apply gO|apply gP|refine j04 rfl ?_|refine j05 h1 (fun _=>?_)|refine j05 h2 (fun _=>?_)|apply gK)
  all_goals (try (conv=>whnf))
  rfl
theorem j8S (s:List UInt8) (n:Int) (a:Tr) (s1:List UInt8) (n1:Int) (b c:Tr) (d1 q1:Int) (d q:Int) (m:Nat) (hm:m ≤ 100000) (ha:a.ok m) (hb:b.ok m) (hc:c.ok m):Pf C1 246 [encR (.nd s n a (.nd s1 n1 b c d1 q1) d q)] [encR (j6t (.nd s n a (.nd s1 n1 b c d1 q1) d q))]:=by
 have h1:=j2z s n a (.nd s1 n1 b c d1 q1) d q a b m (by omega) ha hb
 have h2:=j2z s1 n1 b c d1 q1 (j0f s n a b) c (2 * m + 1) (by omega) (j3p ha hb) (hc.up (by omega))
 have e:encR (.nd s n a (.nd s1 n1 b c d1 q1) d q) = .cp [sv s,iv n,encR a,.cp [sv s1,iv n1,encR b,encR c,iv d1,iv q1],iv d,iv q]:=rfl
 have e':encR (.nd s1 n1 b c d1 q1) = .cp [sv s1,iv n1,encR b,encR c,iv d1,iv q1]:=rfl
 rw [e] at h1 ⊢
 rw [e'] at h2
 simp only [j6t]
 rw [j3h s1] at h2 ⊢
 rw [j3h s n a b] at h1 h2 ⊢
 have e1:=j0K a
 have e2:=j0K b
 have e3:=j0K c
 generalize encR a=wa at *
 generalize encR b=wb at *
 generalize encR c=wc at *
 rcases e1 with rfl|⟨c1,rfl⟩ <;> rcases e2 with rfl|⟨c2,rfl⟩ <;> rcases e3 with rfl|⟨c3,rfl⟩
 all_goals
  refine j00 Tryz.func246 rfl rfl rfl ?_
  repeat' ((conv=>whnf);first|apply gO|apply gP|refine j04 rfl ?_|refine j05 h1 (fun _=>?_)|refine j05 h2 (fun _=>?_)|apply gK)
  all_goals (try (conv=>whnf))
  rfl
def j9D (s:List UInt8):Tr→Tr
 | .nil=>.nil
 | .nd s1 n l r d q=>if s1=s then .nd s1 n l r d q else if Op.bytesLess s s1=true then j9D s l else j9D s r
def Tr.size:Tr→Nat
 | .nil=>0
 | .nd _ _ l r _ _=>l.size + r.size + 1
theorem jnt (s:List UInt8) (t:Tr):Pf C1 179 [encR t,sv s] [encR (j9D s t)]:=by
 refine j00 Tryz.func179 rfl rfl rfl ?_
 skip
 all_goals (try (conv=>whnf))
 refine j09 (G:=Tr) (fun g=>[(0,encR g)]) (fun _=>_) (fun g=>j9D s g=j9D s t) (fun g=>g.size) t rfl rfl rfl ?_
 intro g hg
 cases g with
 |nil =>
  rw [← hg]
  repeat' ((conv=>whnf);first|apply gF|refine j04 rfl ?_|refine j2Q (t:=.nil) ?_)
  all_goals (try (conv=>whnf))
  all_goals rfl
 |nd s1 n l r d q =>
  rw [j9D] at hg
  have e:encR (.nd s1 n l r d q) = .cp [sv s1,iv n,encR l,encR r,iv d,iv q]:=rfl
  rw [e]
  repeat' ((conv=>whnf);first|apply gT|apply gN|apply gM<;>intro h|refine j04 rfl ?_|refine j2Q (t:=.nd s1 n l r d q) ?_|refine j7d ?_)
  all_goals (try (conv=>whnf))
  ·have hs:s1=s:=by simpa using (by assumption:(s1 == s)=true)
   rw [if_pos hs] at hg
   rw [← hg,e]
  ·have hs:¬ s1=s:=by simpa using (by assumption:(s1 == s)=false)
   rw [if_neg hs,if_pos (by assumption)] at hg
   exact VAgain.mk _ rfl _ (j0V rfl) ⟨l,hg,by simp only [Tr.size]; omega,rfl⟩
  ·have hs:¬ s1=s:=by simpa using (by assumption:(s1 == s)=false)
   rw [if_neg hs,if_neg (by simp only [(by assumption:Op.bytesLess s s1=false)]; simp)] at hg
   exact VAgain.mk _ rfl _ (j0V rfl) ⟨r,hg,by simp only [Tr.size]; omega,rfl⟩
def getR (s:List UInt8) (t:Tr):Option Int:=match j9D s t with
 | .nil=>none
 | .nd _ n _ _ _ _=>some n
def j5X (t:Tr):PV:=.cp [encR t]
def getV (o:Option Int):List PV:=match o with
 |none=>[iv 0,bv false]
 |some n=>[iv n,bv true]
theorem jlN (s:List UInt8) (t:Tr):Pf C1 126 [j5X t,sv s] (getV (getR s t)):=by
 have hf:=jnt s t
 have e1:=j0K t
 unfold getR j5X
 generalize encR t=w at *
 cases hF:j9D s t with
 |nil =>
  rw [hF] at hf
  rcases e1 with rfl|⟨c1,rfl⟩
  all_goals
   refine j00 Tryz.func126 rfl rfl rfl ?_
   repeat' ((conv=>whnf);first|apply gT|refine j04 rfl ?_|refine j01 hf rfl rfl ?_|refine j2Q (t:=.nil) ?_)
   all_goals (try (conv=>whnf))
   rfl
 |nd s1 n l r d q =>
  rw [hF] at hf
  rcases e1 with rfl|⟨c1,rfl⟩
  all_goals
   refine j00 Tryz.func126 rfl rfl rfl ?_
   repeat' ((conv=>whnf);first|apply gF|refine j04 rfl ?_|refine j01 hf rfl rfl ?_|refine j2Q (t:=.nd s1 n l r d q) ?_)
   all_goals (try (conv=>whnf))
   rfl
open Go Go.Am Go.Gw
def Tr.lt:Tr→Tr
 | .nil=>.nil
 | .nd _ _ l _ _ _=>l
def Tr.rt:Tr→Tr
 | .nil=>.nil
 | .nd _ _ _ r _ _=>r
def jdE:Tr→Tr
 | .nil=>.nil
 | .nd s n l r d q=>if l.deep - r.deep=2 then j6Z (if l.lt.deep < l.rt.deep then j0f s n (j6t l) r else .nd s n l r d q)
  else if l.deep - r.deep = -2 then j6t (if r.rt.deep < r.lt.deep then j0f s n l (j6Z r) else .nd s n l r d q) else .nd s n l r d q
theorem j8u {t:Tr} (h:0 < t.deep):∃ s n l r d q,t = .nd s n l r d q:=by
 cases t with
 |nil=>simp [Tr.deep] at h
 |nd s n l r d q=>exact ⟨_,_,_,_,_,_,rfl⟩
theorem jgx (s:List UInt8) (n:Int) (l r:Tr) (d q:Int) (m:Nat) (hm:m ≤ 10000) (ho:(Tr.nd s n l r d q).ok m):Pf C1 213 [encR (.nd s n l r d q)] [encR (jdE (.nd s n l r d q))]:=by
 obtain ⟨hol,hor,-⟩:=ho
 have hbl:=hol.bd
 have hbr:=hor.bd
 have hl:=j3x l
 have hr:=j3x r
 rw [jdE]
 by_cases c1:l.deep - r.deep=2
 ·rw [if_pos c1]
  obtain ⟨s1,n1,a,b,d1,q1,rfl⟩:=j8u (t:=l) (by omega)
  have ha:=j3x a
  have hb:=j3x b
  obtain ⟨hoa,hob,-⟩:=hol
  by_cases c2:a.deep < b.deep
  ·rw [if_pos (show (Tr.nd s1 n1 a b d1 q1).lt.deep < (Tr.nd s1 n1 a b d1 q1).rt.deep from c2)]
   have hba:=hoa.bd
   obtain ⟨s2,n2,b1,b2,d2,q2,rfl⟩:=j8u (t:=b) (by omega)
   obtain ⟨ho1,ho2,-⟩:=hob
   have ht:=j8S s1 n1 a s2 n2 b1 b2 d2 q2 d1 q1 m (by omega) hoa ho1 ho2
   have hx1:=j3p (s:=s1) (n:=n1) hoa ho1
   have hx2:=j3p (s:=s2) (n:=n2) hx1 (ho2.up (by omega))
   have hw:=j2z s n (.nd s1 n1 a (.nd s2 n2 b1 b2 d2 q2) d1 q1) r d q (j0f s2 n2 (j0f s1 n1 a b1) b2) r _ (by omega) hx2 (hor.up (by omega))
   have hT:=j9K s n s2 n2 (j0f s1 n1 a b1) b2 (d1:=(j0f s2 n2 (j0f s1 n1 a b1) b2).deep) (q1:=(j0f s2 n2 (j0f s1 n1 a b1) b2).count) (c:=r) (d:=(j0f s n (j0f s2 n2 (j0f s1 n1 a b1) b2) r).deep) (q:=(j0f s n (j0f s2 n2 (j0f s1 n1 a b1) b2) r).count) (m:=2 * m + 1) (by omega) hx1 (ho2.up (by omega)) (hor.up (by omega))
   have e0:j6t (.nd s1 n1 a (.nd s2 n2 b1 b2 d2 q2) d1 q1)=j0f s2 n2 (j0f s1 n1 a b1) b2:=rfl
   have e3:Tr.nd s n (Tr.nd s2 n2 (j0f s1 n1 a b1) b2 (j0f s2 n2 (j0f s1 n1 a b1) b2).deep (j0f s2 n2 (j0f s1 n1 a b1) b2).count) r (j0f s n (j0f s2 n2 (j0f s1 n1 a b1) b2) r).deep (j0f s n (j0f s2 n2 (j0f s1 n1 a b1) b2) r).count=j0f s n (j0f s2 n2 (j0f s1 n1 a b1) b2) r:=rfl
   rw [e3] at hT
   rw [e0] at ht ⊢
   have e5:=j0K (j6Z (j0f s n (j0f s2 n2 (j0f s1 n1 a b1) b2) r))
   generalize encR (j6Z (j0f s n (j0f s2 n2 (j0f s1 n1 a b1) b2) r))=out at *
   have e6:encR (j0f s n (j0f s2 n2 (j0f s1 n1 a b1) b2) r) = .cp [sv s,iv n,encR (j0f s2 n2 (j0f s1 n1 a b1) b2),encR r,iv ((if r.deep > (j0f s2 n2 (j0f s1 n1 a b1) b2).deep then r.deep else (j0f s2 n2 (j0f s1 n1 a b1) b2).deep) + 1),iv ((j0f s2 n2 (j0f s1 n1 a b1) b2).count + r.count + 1)]:=rfl
   have e7:encR (j0f s2 n2 (j0f s1 n1 a b1) b2) = .cp [sv s2,iv n2,encR (j0f s1 n1 a b1),encR b2,iv ((if b2.deep > (j0f s1 n1 a b1).deep then b2.deep else (j0f s1 n1 a b1).deep) + 1),iv ((j0f s1 n1 a b1).count + b2.count + 1)]:=rfl
   rw [e6] at hw hT
   rw [e7] at ht hw hT
   clear e6 e7 e3 e0
   have e:encR (Tr.nd s n (Tr.nd s1 n1 a (Tr.nd s2 n2 b1 b2 d2 q2) d1 q1) r d q) = .cp [sv s,iv n,.cp [sv s1,iv n1,encR a,.cp [sv s2,iv n2,encR b1,encR b2,iv d2,iv q2],iv d1,iv q1],encR r,iv d,iv q]:=rfl
   have e1:encR (Tr.nd s1 n1 a (Tr.nd s2 n2 b1 b2 d2 q2) d1 q1) = .cp [sv s1,iv n1,encR a,.cp [sv s2,iv n2,encR b1,encR b2,iv d2,iv q2],iv d1,iv q1]:=rfl
   have e2:encR (Tr.nd s2 n2 b1 b2 d2 q2) = .cp [sv s2,iv n2,encR b1,encR b2,iv d2,iv q2]:=rfl
   rw [e] at hw ⊢
   rw [e1] at hl ht
   rw [e2] at hb
   clear e e1 e2
   have fa:=j0X a
   have fr:=j0X r
   generalize hwa:encR a=wa at *
   generalize hwr:encR r=wr at *
   rcases e5 with rfl|⟨co,rfl⟩ <;> rcases fa with rfl|⟨ca,rfl⟩ <;> rcases fr with rfl|⟨cr,rfl⟩ <;> (try subst hwa) <;> (try subst hwr)
   all_goals
    refine j00 Tryz.func213 rfl rfl rfl ?_
    repeat' ((conv=>whnf);first|refine gA ?_|apply gO|apply gP|refine gV ?_|refine j04 rfl ?_|refine j05 hl (fun _=>?_)|refine j05 hr (fun _=>?_)|refine j05 ha (fun _=>?_)|refine j05 hb (fun _=>?_)|refine j05 ht (fun _=>?_)|refine j05 hw (fun _=>?_)|refine j01 hT rfl rfl ?_|apply gK)
    all_goals (try (conv=>whnf))
    rfl
  ·rw [if_neg (show ¬ (Tr.nd s1 n1 a b d1 q1).lt.deep < (Tr.nd s1 n1 a b d1 q1).rt.deep from c2)]
   have hT:=j9K s n s1 n1 a b d1 q1 r d q m (by omega) hoa hob hor
   have e5:=j0K (j6Z (.nd s n (.nd s1 n1 a b d1 q1) r d q))
   generalize encR (j6Z (.nd s n (.nd s1 n1 a b d1 q1) r d q))=out at *
   have e:encR (Tr.nd s n (Tr.nd s1 n1 a b d1 q1) r d q) = .cp [sv s,iv n,.cp [sv s1,iv n1,encR a,encR b,iv d1,iv q1],encR r,iv d,iv q]:=rfl
   have e1:encR (Tr.nd s1 n1 a b d1 q1) = .cp [sv s1,iv n1,encR a,encR b,iv d1,iv q1]:=rfl
   rw [e] at hT ⊢
   rw [e1] at hl
   clear e e1
   have fa:=j0X a
   have fb:=j0X b
   have fr:=j0X r
   generalize hwa:encR a=wa at *
   generalize hwb:encR b=wb at *
   generalize hwr:encR r=wr at *
   rcases e5 with rfl|⟨co,rfl⟩ <;> rcases fa with rfl|⟨ca,rfl⟩ <;> rcases fb with rfl|⟨cb,rfl⟩ <;> rcases fr with rfl|⟨cr,rfl⟩ <;> (try subst hwa) <;> (try subst hwb) <;> (try subst hwr)
   all_goals
    refine j00 Tryz.func213 rfl rfl rfl ?_
    repeat' ((conv=>whnf);first|apply gF|refine gA ?_|refine gB ?_|apply gO|apply gP|refine gV ?_|refine j04 rfl ?_|refine j05 hl (fun _=>?_)|refine j05 hr (fun _=>?_)|refine j05 ha (fun _=>?_)|refine j05 hb (fun _=>?_)|refine j01 hT rfl rfl ?_|apply gK)
    all_goals (try (conv=>whnf))
    rfl
 ·rw [if_neg c1]
  by_cases c2:l.deep - r.deep = -2
  ·rw [if_pos c2]
   obtain ⟨s1,n1,b,c,d1,q1,rfl⟩:=j8u (t:=r) (by omega)
   have hb:=j3x b
   have hc:=j3x c
   obtain ⟨hob,hoc,-⟩:=hor
   by_cases c3:c.deep < b.deep
   ·rw [if_pos (show (Tr.nd s1 n1 b c d1 q1).rt.deep < (Tr.nd s1 n1 b c d1 q1).lt.deep from c3)]
    have hbc:=hoc.bd
    obtain ⟨s2,n2,b1,b2,d2,q2,rfl⟩:=j8u (t:=b) (by omega)
    obtain ⟨ho1,ho2,-⟩:=hob
    have ht:=j9K s1 n1 s2 n2 b1 b2 d2 q2 c d1 q1 m (by omega) ho1 ho2 hoc
    have hx1:=j3p (s:=s1) (n:=n1) ho2 hoc
    have hx2:=j3p (s:=s2) (n:=n2) (ho1.up (by omega)) hx1
    have hw:=j2z s n l (.nd s1 n1 (.nd s2 n2 b1 b2 d2 q2) c d1 q1) d q l (j0f s2 n2 b1 (j0f s1 n1 b2 c)) _ (by omega) (hol.up (by omega)) hx2
    have hT:=j8S s n l s2 n2 b1 (j0f s1 n1 b2 c) (d1:=(j0f s2 n2 b1 (j0f s1 n1 b2 c)).deep) (q1:=(j0f s2 n2 b1 (j0f s1 n1 b2 c)).count) (d:=(j0f s n l (j0f s2 n2 b1 (j0f s1 n1 b2 c))).deep) (q:=(j0f s n l (j0f s2 n2 b1 (j0f s1 n1 b2 c))).count) (m:=2 * m + 1) (by omega) (hol.up (by omega)) (ho1.up (by omega)) hx1
    have e0:j6Z (.nd s1 n1 (.nd s2 n2 b1 b2 d2 q2) c d1 q1)=j0f s2 n2 b1 (j0f s1 n1 b2 c):=rfl
    have e3:Tr.nd s n l (Tr.nd s2 n2 b1 (j0f s1 n1 b2 c) (j0f s2 n2 b1 (j0f s1 n1 b2 c)).deep (j0f s2 n2 b1 (j0f s1 n1 b2 c)).count) (j0f s n l (j0f s2 n2 b1 (j0f s1 n1 b2 c))).deep (j0f s n l (j0f s2 n2 b1 (j0f s1 n1 b2 c))).count=j0f s n l (j0f s2 n2 b1 (j0f s1 n1 b2 c)):=rfl
    rw [e3] at hT
    rw [e0] at ht ⊢
    have e5:=j0K (j6t (j0f s n l (j0f s2 n2 b1 (j0f s1 n1 b2 c))))
    generalize encR (j6t (j0f s n l (j0f s2 n2 b1 (j0f s1 n1 b2 c))))=out at *
    have e6:encR (j0f s n l (j0f s2 n2 b1 (j0f s1 n1 b2 c))) = .cp [sv s,iv n,encR l,encR (j0f s2 n2 b1 (j0f s1 n1 b2 c)),iv ((if (j0f s2 n2 b1 (j0f s1 n1 b2 c)).deep > l.deep then (j0f s2 n2 b1 (j0f s1 n1 b2 c)).deep else l.deep) + 1),iv (l.count + (j0f s2 n2 b1 (j0f s1 n1 b2 c)).count + 1)]:=rfl
    have e7:encR (j0f s2 n2 b1 (j0f s1 n1 b2 c)) = .cp [sv s2,iv n2,encR b1,encR (j0f s1 n1 b2 c),iv ((if (j0f s1 n1 b2 c).deep > b1.deep then (j0f s1 n1 b2 c).deep else b1.deep) + 1),iv (b1.count + (j0f s1 n1 b2 c).count + 1)]:=rfl
    rw [e6] at hw hT
    rw [e7] at ht hw hT
    clear e6 e7 e3 e0
    have e:encR (Tr.nd s n l (Tr.nd s1 n1 (Tr.nd s2 n2 b1 b2 d2 q2) c d1 q1) d q) = .cp [sv s,iv n,encR l,.cp [sv s1,iv n1,.cp [sv s2,iv n2,encR b1,encR b2,iv d2,iv q2],encR c,iv d1,iv q1],iv d,iv q]:=rfl
    have e1:encR (Tr.nd s1 n1 (Tr.nd s2 n2 b1 b2 d2 q2) c d1 q1) = .cp [sv s1,iv n1,.cp [sv s2,iv n2,encR b1,encR b2,iv d2,iv q2],encR c,iv d1,iv q1]:=rfl
    have e2:encR (Tr.nd s2 n2 b1 b2 d2 q2) = .cp [sv s2,iv n2,encR b1,encR b2,iv d2,iv q2]:=rfl
    rw [e] at hw ⊢
    rw [e1] at hr ht
    rw [e2] at hb
    clear e e1 e2
    have fc:=j0X c
    have fl:=j0X l
    generalize hwc:encR c=wc at *
    generalize hwl:encR l=wl at *
    rcases e5 with rfl|⟨co,rfl⟩ <;> rcases fc with rfl|⟨cc,rfl⟩ <;> rcases fl with rfl|⟨cl,rfl⟩ <;> (try subst hwc) <;> (try subst hwl)
    all_goals
     refine j00 Tryz.func213 rfl rfl rfl ?_
     repeat' ((conv=>whnf);first|refine gA ?_|refine gB ?_|apply gO|apply gP|refine gV ?_|refine j04 rfl ?_|refine j05 hl (fun _=>?_)|refine j05 hr (fun _=>?_)|refine j05 hc (fun _=>?_)|refine j05 hb (fun _=>?_)|refine j05 ht (fun _=>?_)|refine j05 hw (fun _=>?_)|refine j01 hT rfl rfl ?_|apply gK)
     all_goals (try (conv=>whnf))
     rfl
   ·rw [if_neg (show ¬ (Tr.nd s1 n1 b c d1 q1).rt.deep < (Tr.nd s1 n1 b c d1 q1).lt.deep from c3)]
    have hT:=j8S s n l s1 n1 b c d1 q1 d q m (by omega) hol hob hoc
    have e5:=j0K (j6t (.nd s n l (.nd s1 n1 b c d1 q1) d q))
    generalize encR (j6t (.nd s n l (.nd s1 n1 b c d1 q1) d q))=out at *
    have e:encR (Tr.nd s n l (Tr.nd s1 n1 b c d1 q1) d q) = .cp [sv s,iv n,encR l,.cp [sv s1,iv n1,encR b,encR c,iv d1,iv q1],iv d,iv q]:=rfl
    have e1:encR (Tr.nd s1 n1 b c d1 q1) = .cp [sv s1,iv n1,encR b,encR c,iv d1,iv q1]:=rfl
    rw [e] at hT ⊢
    rw [e1] at hr
    clear e e1
    have fb:=j0X b
    have fc:=j0X c
    have fl:=j0X l
    generalize hwb:encR b=wb at *
    generalize hwc:encR c=wc at *
    generalize hwl:encR l=wl at *
    rcases e5 with rfl|⟨co,rfl⟩ <;> rcases fb with rfl|⟨cb,rfl⟩ <;> rcases fc with rfl|⟨cc,rfl⟩ <;> rcases fl with rfl|⟨cl,rfl⟩ <;> (try subst hwb) <;> (try subst hwc) <;> (try subst hwl)
    all_goals
     refine j00 Tryz.func213 rfl rfl rfl ?_
     repeat' ((conv=>whnf);first|apply gF|refine gA ?_|refine gB ?_|apply gO|apply gP|refine gV ?_|refine j04 rfl ?_|refine j05 hl (fun _=>?_)|refine j05 hr (fun _=>?_)|refine j05 hb (fun _=>?_)|refine j05 hc (fun _=>?_)|refine j01 hT rfl rfl ?_|apply gK)
     all_goals (try (conv=>whnf))
     rfl
  ·rw [if_neg c2]
   have e:encR (.nd s n l r d q) = .cp [sv s,iv n,encR l,encR r,iv d,iv q]:=rfl
   rw [e]
   have fl:=j0X l
   have fr:=j0X r
   generalize hwl:encR l=wl at *
   generalize hwr:encR r=wr at *
   rcases fl with rfl|⟨cl,rfl⟩ <;> rcases fr with rfl|⟨cr,rfl⟩ <;> (try subst hwl) <;> (try subst hwr)
   all_goals
    refine j00 Tryz.func213 rfl rfl rfl ?_
    repeat' ((conv=>whnf);first|apply gF|refine gB ?_|apply gO|apply gP|refine gV ?_|refine j04 rfl ?_|refine j05 hl (fun _=>?_)|refine j05 hr (fun _=>?_)|apply gK)
    all_goals (try (conv=>whnf))
open Go Go.Am Go.Gw
theorem jfB {op:BinOp} {x y:Operand} {cs:List PV} {K:PV→Prop} (h:jlX op false K):VRes (j0l C1.P op 151 x y (.cp cs) nilP) K:=by
 cases op with
 |eql=>exact ⟨_,jnO,h⟩
 |neq=>exact ⟨_,jnP,h⟩
 |_=>exact h.elim
def putR (s:List UInt8) (n:Int):Tr→Tr
 | .nil=>j0f s n .nil .nil
 | .nd s1 n1 l r _ _=>if Op.bytesLess s s1=true then jdE (j0f s1 n1 (putR s n l) r) else if (!(Op.bytesLess s s1 || s == s1))=true then jdE (j0f s1 n1 l (putR s n r)) else j0f s n l r
def jfc (s:List UInt8) (n:Int):Tr→Prop
 | .nil=>True
 | .nd _ _ l r _ _=>l.ok 4000∧r.ok 4000∧(putR s n l).ok 4000∧(putR s n r).ok 4000∧jfc s n l∧jfc s n r
theorem joc (s:List UInt8) (n:Int) (t:Tr):jfc s n t→Pf C1 181 [encR t,sv s,iv n] [encR (putR s n t)]:=by
 induction t with
 |nil =>
  intro _
  have hj:=j9r s n .nil .nil 0 (by omega) trivial trivial
  refine j00 Tryz.func181 rfl rfl rfl ?_
  repeat' ((conv=>whnf);first|apply gT|refine j04 rfl ?_|refine j2Q (t:=.nil) ?_|refine j01 hj rfl rfl ?_)
  all_goals (try (conv=>whnf))
  rfl
 |nd s1 n1 l r d q ihl ihr =>
  rintro ⟨hol,hor,hpl,hpr,hkl,hkr⟩
  have hl:=ihl hkl
  have hr:=ihr hkr
  have w1:=j2z s1 n1 l r d q (putR s n l) r 4000 (by omega) hpl hor
  have w2:=j2z s1 n1 l r d q l (putR s n r) 4000 (by omega) hol hpr
  have v1:=jgx s1 n1 (putR s n l) r (j0f s1 n1 (putR s n l) r).deep (j0f s1 n1 (putR s n l) r).count 8001 (by omega) (j3p (s:=s1) (n:=n1) hpl hor)
  have v2:=jgx s1 n1 l (putR s n r) (j0f s1 n1 l (putR s n r)).deep (j0f s1 n1 l (putR s n r)).count 8001 (by omega) (j3p (s:=s1) (n:=n1) hol hpr)
  have hj:=j9r s n l r 4000 (by omega) hol hor
  have e1:Tr.nd s1 n1 (putR s n l) r (j0f s1 n1 (putR s n l) r).deep (j0f s1 n1 (putR s n l) r).count=j0f s1 n1 (putR s n l) r:=rfl
  have e2:Tr.nd s1 n1 l (putR s n r) (j0f s1 n1 l (putR s n r)).deep (j0f s1 n1 l (putR s n r)).count=j0f s1 n1 l (putR s n r):=rfl
  rw [e1] at v1
  rw [e2] at v2
  clear e1 e2
  rw [putR]
  have e:encR (.nd s1 n1 l r d q) = .cp [sv s1,iv n1,encR l,encR r,iv d,iv q]:=rfl
  rw [e] at w1 w2 ⊢
  rw [j3h] at w1 v1 w2 v2 hj
  have fl:=j0K l
  have fr:=j0K r
  by_cases c1:Op.bytesLess s s1=true
  ·rw [if_pos c1]
   have fp:=j0K (putR s n l)
   have fo:=j0K (jdE (j0f s1 n1 (putR s n l) r))
   generalize encR (jdE (j0f s1 n1 (putR s n l) r))=out at *
   generalize encR (putR s n l)=wp at *
   generalize encR l=wl at *
   generalize encR r=wr at *
   rcases fl with rfl|⟨cl,rfl⟩ <;> rcases fr with rfl|⟨cr,rfl⟩ <;> rcases fp with rfl|⟨cp,rfl⟩ <;> rcases fo with rfl|⟨co,rfl⟩
   all_goals
    refine j00 Tryz.func181 rfl rfl rfl ?_
    repeat' ((conv=>whnf);first|apply gF|refine gC ?_|apply gO|apply gP|refine j04 rfl ?_|refine jfB ?_|refine j7d ?_|refine j05 hl (fun _=>?_)|refine j05 w1 (fun _=>?_)|refine j05 v1 (fun _=>?_)|apply gK)
    all_goals (try (conv=>whnf))
    all_goals first|rfl|(exfalso; simp_all; done)
  ·rw [if_neg c1]
   by_cases c2:(!(Op.bytesLess s s1 || s == s1))=true
   ·rw [if_pos c2]
    have fp:=j0K (putR s n r)
    have fo:=j0K (jdE (j0f s1 n1 l (putR s n r)))
    generalize encR (jdE (j0f s1 n1 l (putR s n r)))=out at *
    generalize encR (putR s n r)=wp at *
    generalize encR l=wl at *
    generalize encR r=wr at *
    rcases fl with rfl|⟨cl,rfl⟩ <;> rcases fr with rfl|⟨cr,rfl⟩ <;> rcases fp with rfl|⟨cp,rfl⟩ <;> rcases fo with rfl|⟨co,rfl⟩
    all_goals
     refine j00 Tryz.func181 rfl rfl rfl ?_
     repeat' ((conv=>whnf);first|apply gF|apply gN|apply gM<;>intro h|apply gO|apply gP|refine j04 rfl ?_|refine jfB ?_|refine j7d ?_|refine j05 hr (fun _=>?_)|refine j05 w2 (fun _=>?_)|refine j05 v2 (fun _=>?_)|apply gK)
     all_goals (try (conv=>whnf))
     all_goals first|rfl|(exfalso; simp_all; done)
   ·rw [if_neg c2]
    rw [j3h]
    generalize encR l=wl at *
    generalize encR r=wr at *
    rcases fl with rfl|⟨cl,rfl⟩ <;> rcases fr with rfl|⟨cr,rfl⟩
    all_goals
     refine j00 Tryz.func181 rfl rfl rfl ?_
     repeat' ((conv=>whnf);first|apply gF|apply gN|apply gM<;>intro h|apply gO|apply gP|refine j04 rfl ?_|refine jfB ?_|refine j7d ?_|refine j05 hj (fun _=>?_)|apply gK)
     all_goals (try (conv=>whnf))
     all_goals first|rfl|(exfalso; simp_all; done)
theorem jol (s:List UInt8) (n:Int) (t:Tr) (h:jfc s n t):Pf C1 128 [j5X t,sv s,iv n] [j5X (putR s n t)]:=by
 have hp:=joc s n t h
 unfold j5X
 have e1:=j0K t
 have e2:=j0K (putR s n t)
 generalize encR (putR s n t)=v at *
 generalize encR t=w at *
 rcases e1 with rfl|⟨c1,rfl⟩ <;> rcases e2 with rfl|⟨c2,rfl⟩
 all_goals
  refine j00 Tryz.func128 rfl rfl rfl ?_
  repeat' ((conv=>whnf);first|refine j01 hp rfl rfl ?_)
  all_goals (try (conv=>whnf))
  exact j0s rfl rfl rfl rfl
theorem jeQ:Pf C1 78 [] [j5X .nil]:=by
 refine j00 Tryz.func78 rfl rfl rfl ?_
 skip
 all_goals (try (conv=>whnf))
 exact j0s rfl rfl rfl rfl
end Go.Proofs.YtljnahbgfmflaaaGreatDoor

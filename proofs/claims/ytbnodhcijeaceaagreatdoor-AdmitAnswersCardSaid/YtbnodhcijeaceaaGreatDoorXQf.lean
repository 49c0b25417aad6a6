/- Sorted maps: what stands in one with a name more. Plain law, no program in sight. -/
import Derived.Test.YtbnodhcijeaceaaGreatDoorXQm
set_option linter.all false
set_option maxHeartbeats 4000000
set_option maxRecDepth 100000
namespace Go.Proofs.YtbnodhcijeaceaaGreatDoor
open Go Go.Am Go.Gw
def jna:∀s:List UInt8,Op.bytesLess s s=false
 |[]=>rfl
 |a::r=>by simp[Op.bytesLess,jna r]
def jaF:∀{a b c:List UInt8},Op.bytesLess a b=true→Op.bytesLess b c=true→Op.bytesLess a c=true
 |[],[],_,h,_=>by simp[Op.bytesLess] at h
 |_::_,[],_,h,_=>by simp[Op.bytesLess] at h
 |_,_::_,[],_,h=>by simp[Op.bytesLess] at h
 |[],_::_,_::_,_,_=>rfl
 |x::a,y::b,z::c,h1,h2=>by
  have ih:=@jaF a b c;simp only[Op.bytesLess] at h1 h2 ⊢
  grind
def jrX:∀{a b:List UInt8},Op.bytesLess a b=false→a=b∨Op.bytesLess b a=true
 |[],[],_=>.inl rfl
 |[],_::_,h=>by simp[Op.bytesLess] at h
 |_::_,[],_=>.inr rfl
 |x::a,y::b,h=>by
  have ih:=@jrX a b;simp only[Op.bytesLess] at h ⊢
  grind
def jsK{a b:List UInt8}(h:Op.bytesLess a b=true):Op.bytesLess b a=false:=by
 cases e:Op.bytesLess b a with
 |false=>rfl
 |true=>have:=jaF h e;rw[jna] at this;cases this
def Tr.In(x:List UInt8)(i:Int):Tr→Prop
 | .nil=>False
 | .nd s n l r _ _=>(x=s∧i=n)∨l.In x i∨r.In x i
def Tr.bst:Tr→Prop
 | .nil=>True
 | .nd s _ l r _ _=>l.bst∧r.bst∧(∀x i,l.In x i→Op.bytesLess x s=true)∧∀x i,r.In x i→Op.bytesLess s x=true
def Tr.ex:Tr→Prop
 | .nil=>True
 | .nd _ _ l r d q=>l.ex∧r.ex∧d=(if r.deep>l.deep then r.deep else l.deep)+1∧q=l.count+r.count+1
variable{d i n q:Int}{s x:List UInt8}{y:Operand}{l r t:Tr}
def jpG(t:Tr):(j3F t).In x i↔t.In x i:=by
 unfold j3F;split
 ·simp only[j0c,Tr.In];grind
 ·rfl
def jpE(t:Tr):(j3E t).In x i↔t.In x i:=by
 unfold j3E;split
 ·simp only[j0c,Tr.In];grind
 ·rfl
def jms(h:t.bst):(j3F t).bst:=by
 unfold j3F;split
 ·simp only[j0c,Tr.bst,Tr.In] at h⊢;obtain⟨⟨h1,h2,h3,h4⟩,h5,h6,h7⟩:=h;have hs:=h6 _ _ (.inl ⟨rfl,rfl⟩);refine⟨h1,⟨h2,h5,fun x i hx=>h6 x i (.inr (.inr hx)),h7⟩,h3,?_⟩
  rintro x i (⟨rfl,rfl⟩|hx|hx)
  ·exact hs
  ·exact h4 x i hx
  ·exact jaF hs (h7 x i hx)
 ·exact h
def jmr(h:t.bst):(j3E t).bst:=by
 unfold j3E;split
 ·simp only[j0c,Tr.bst,Tr.In] at h⊢;obtain⟨h1,⟨h2,h3,h4,h5⟩,h6,h7⟩:=h;have hs:=h7 _ _ (.inl ⟨rfl,rfl⟩);refine⟨⟨h1,h2,h6,fun x i hx=>h7 x i (.inr (.inl hx))⟩,h3,?_,h5⟩
  rintro x i (⟨rfl,rfl⟩|hx|hx)
  ·exact hs
  ·exact jaF (h6 x i hx) hs
  ·exact h4 x i hx
 ·exact h
def jpF(h:t.ex):(j3F t).ex∧(j3F t).count=t.count:=by
 unfold j3F;split
 ·simp only[j0c,Tr.ex,Tr.count] at h⊢;obtain⟨⟨h1,h2,h3,h4⟩,h5,h6,h7⟩:=h;exact⟨by simp[h1,h2,h5,Tr.deep],by omega⟩
 ·exact⟨h,rfl⟩
def jpD(h:t.ex):(j3E t).ex∧(j3E t).count=t.count:=by
 unfold j3E;split
 ·simp only[j0c,Tr.ex,Tr.count] at h⊢;obtain⟨h1,⟨h2,h3,h4,h5⟩,h6,h7⟩:=h;exact⟨by simp[h1,h2,h3,Tr.deep],by omega⟩
 ·exact⟨h,rfl⟩
structure Tr.As (t u:Tr):Prop where
 i:∀x i,u.In x i↔t.In x i
 b:t.bst→u.bst
 e:t.ex→u.ex∧u.count=t.count
def as_R(t:Tr):t.As (j3F t):=⟨fun _ _=>jpG t,jms,jpF⟩
def as_L(t:Tr):t.As (j3E t):=⟨fun _ _=>jpE t,jmr,jpD⟩
def Tr.As.refl(t:Tr):t.As t:=⟨fun _ _=>Iff.rfl,id,fun h=>⟨h,rfl⟩⟩
def Tr.As.trans{u v:Tr}(h:t.As u)(k:u.As v):t.As v:=⟨fun x i=>(k.i x i).trans (h.i x i),fun b=>k.b (h.b b),fun e=>⟨(k.e (h.e e).1).1,(k.e (h.e e).1).2.trans (h.e e).2⟩⟩
def jn2{l2 r2:Tr}(h:l.As l2)(k:r.As r2):(Tr.nd s n l r d q).As (j0c s n l2 r2):=by
 refine⟨fun x i=>?_,fun b=>?_,fun e=>?_⟩
 ·simp only[j0c,Tr.In,h.i,k.i]
 ·obtain⟨b1,b2,b3,b4⟩:=b;exact⟨h.b b1,k.b b2,fun x i hx=>b3 x i ((h.i x i).1 hx),fun x i hx=>b4 x i ((k.i x i).1 hx)⟩
 ·obtain⟨b1,b2,b3,b4⟩:=e;have e1:=(h.e b1).2;have e2:=(k.e b2).2;refine⟨⟨(h.e b1).1,(k.e b2).1,rfl,rfl⟩,?_⟩;show l2.count+r2.count+1=q
  omega
def j4I(t:Tr):t.As (jcN t):=by
 cases t with
 |nil=>exact Tr.As.refl _
 |nd s n l r d q=>
  rw[jcN];split
  ·refine Tr.As.trans ?_ (as_R _);split
   ·exact jn2 (as_L l) (Tr.As.refl r)
   ·exact Tr.As.refl _
  split
  ·refine Tr.As.trans ?_ (as_L _);split
   ·exact jn2 (Tr.As.refl l) (as_R r)
   ·exact Tr.As.refl _
  ·exact Tr.As.refl _
def jo3{s1:List UInt8}:getR s (.nd s1 n l r d q)=if s1=s then some n else if Op.bytesLess s s1=true then getR s l else getR s r:=by
 unfold getR;rw[jay]
 by_cases e:s1=s
 ·rw[if_pos e,if_pos e]
 ·rw[if_neg e,if_neg e]
  by_cases k:Op.bytesLess s s1=true
  ·rw[if_pos k,if_pos k]
  ·rw[if_neg k,if_neg k]
def jby{s:List UInt8}{i:Int}:∀{t:Tr},getR s t=some i→t.In s i
 | .nil,h=>by cases h
 | .nd s1 n l r d q,h=>by
  rw[jo3] at h;split at h
  ·rename_i e;cases h;exact .inl ⟨e.symm,rfl⟩
  split at h
  ·exact .inr (.inl (jby h))
  ·exact .inr (.inr (jby h))
def j9J{s:List UInt8}{i:Int}:∀{t:Tr},t.bst→t.In s i→getR s t=some i
 | .nil,_,h=>h.elim
 | .nd s1 n l r d q,⟨b1,b2,b3,b4⟩,h=>by
  rw[jo3];have i1:=jna s;have i2:=@jsK s s1;have k1:=@j9J s i l b1;have k2:=@j9J s i r b2;have k3:=b3 s i;have k4:=b4 s i;simp only[Tr.In] at h
  grind
def j9T{s:List UInt8}{n:Int}{x:List UInt8}{i:Int}:∀{t:Tr},(putR s n t).In x i→(x=s∧i=n)∨t.In x i
 | .nil,h=>by
  simp only[putR,j0c,Tr.In] at h
  grind
 | .nd s1 n1 l r d q,h=>by
  rw[putR] at h;split at h
  ·rw[(j4I _).i] at h;rcases h with h|h|h
   ·exact .inr (.inl h)
   ·exact(j9T h).imp id fun h=>.inr (.inl h)
   ·exact .inr (.inr (.inr h))
  split at h
  ·rw[(j4I _).i] at h;rcases h with h|h|h
   ·exact .inr (.inl h)
   ·exact .inr (.inr (.inl h))
   ·exact(j9T h).imp id fun h=>.inr (.inr h)
  ·rcases h with h|h|h
   ·exact .inl h
   ·exact .inr (.inr (.inl h))
   ·exact .inr (.inr (.inr h))
def jii{s:List UInt8}{n:Int}:∀t:Tr,(putR s n t).In s n
 | .nil=>.inl ⟨rfl,rfl⟩
 | .nd s1 n1 l r d q=>by
  rw[putR];split
  ·rw[(j4I _).i];exact .inr (.inl (jii l))
  split
  ·rw[(j4I _).i];exact .inr (.inr (jii r))
  ·exact .inl ⟨rfl,rfl⟩
def j9U{s:List UInt8}{n:Int}{x:List UInt8}{i:Int}(hx:¬x=s):∀{t:Tr},t.In x i→(putR s n t).In x i
 | .nil,h=>h.elim
 | .nd s1 n1 l r d q,h=>by
  rw[putR];split
  ·rw[(j4I _).i];rcases h with h|h|h
   ·exact .inl h
   ·exact .inr (.inl (j9U hx h))
   ·exact .inr (.inr h)
  split
  ·rw[(j4I _).i];rcases h with h|h|h
   ·exact .inl h
   ·exact .inr (.inl h)
   ·exact .inr (.inr (j9U hx h))
  ·rename_i c1 c2;rcases h with h|h|h
   ·have:s=s1:=by simpa[c1] using c2
    exact absurd (h.1.trans this.symm) hx
   ·exact .inr (.inl h)
   ·exact .inr (.inr h)
def jf8{s:List UInt8}{n:Int}:∀{t:Tr},t.bst→(putR s n t).bst
 | .nil,_=>⟨trivial,trivial,fun _ _ h=>h.elim,fun _ _ h=>h.elim⟩
 | .nd s1 n1 l r d q,⟨b1,b2,b3,b4⟩=>by
  rw[putR];split
  ·rename_i c;refine(j4I _).b ⟨jf8 b1,b2,fun x i hx=>?_,b4⟩
   rcases j9T hx with⟨rfl,-⟩|hx
   ·exact c
   ·exact b3 x i hx
  split
  ·rename_i c1 c;refine(j4I _).b ⟨b1,jf8 b2,b3,fun x i hx=>?_⟩
   rcases j9T hx with⟨rfl,-⟩|hx
   ·have c1:Op.bytesLess x s1=false:=by simpa using c1
    rcases jrX c1 with e|e
    ·simp[e] at c
    ·exact e
   ·exact b4 x i hx
  ·rename_i c1 c2;have:s=s1:=by simpa[c1] using c2
   subst this;exact⟨b1,b2,b3,b4⟩
def Tr.ex.bd:∀{t:Tr},t.ex→0≤t.deep∧t.deep≤t.count
 | .nil,_=>⟨CX _,CX _⟩
 | .nd s n l r d q,⟨h1,h2,h3,h4⟩=>by
  have:=h1.bd;have:=h2.bd;simp only[Tr.deep,Tr.count];split at h3<;>omega
def Tr.ex.ok:∀{t:Tr}{m:Nat},t.ex→t.count≤m→t.ok m
 | .nil,_,_,_=>trivial
 | .nd s n l r d q,m,h,hm=>by
  have hb:=h.bd;obtain⟨h1,h2,h3,h4⟩:=h;have k1:=h1.bd;have k2:=h2.bd;simp only[Tr.deep,Tr.count] at hb hm;exact⟨h1.ok (by omega),h2.ok (by omega),hb.1,by omega,by omega,hm⟩
def jc5{s:List UInt8}{n:Int}:∀{t:Tr},t.ex→(putR s n t).ex∧t.count≤(putR s n t).count∧(putR s n t).count≤t.count+1
 | .nil,_=>by
  refine⟨⟨trivial,trivial,rfl,rfl⟩,?_,?_⟩<;>simp only[putR,j0c,Tr.count]<;>omega
 | .nd s1 n1 l r d q,⟨h1,h2,h3,h4⟩=>by
  obtain⟨l1,l2,l3⟩:=jc5 (s:=s) (n:=n) h1;obtain⟨r1,r2,r3⟩:=jc5 (s:=s) (n:=n) h2;rw[putR];split
  ·obtain⟨e1,e2⟩:=(j4I (j0c s1 n1 (putR s n l) r)).e ⟨l1,h2,rfl,rfl⟩;rw[e2];have:(j0c s1 n1 (putR s n l) r).count=(putR s n l).count+r.count+1:=rfl;have:(Tr.nd s1 n1 l r d q).count=q:=rfl;exact⟨e1,by omega,by omega⟩
  split
  ·obtain⟨e1,e2⟩:=(j4I (j0c s1 n1 l (putR s n r))).e ⟨h1,r1,rfl,rfl⟩;rw[e2];have:(j0c s1 n1 l (putR s n r)).count=l.count+(putR s n r).count+1:=rfl;have:(Tr.nd s1 n1 l r d q).count=q:=rfl;exact⟨e1,by omega,by omega⟩
  ·have:(j0c s n l r).count=l.count+r.count+1:=rfl;have:(Tr.nd s1 n1 l r d q).count=q:=rfl;exact⟨⟨h1,h2,rfl,rfl⟩,by omega,by omega⟩
def jiD{s:List UInt8}{n:Int}:∀{t:Tr},t.ex→t.count≤3000→jf7 s n t
 | .nil,_,_=>trivial
 | .nd s1 n1 l r d q,⟨h1,h2,h3,h4⟩,hc=>by
  have k1:=h1.bd;have k2:=h2.bd;have p1:=jc5 (s:=s) (n:=n) h1;have p2:=jc5 (s:=s) (n:=n) h2;simp only[Tr.count] at hc;exact⟨h1.ok (by omega),h2.ok (by omega),p1.1.ok (by omega),p2.1.ok (by omega),jiD h1 (by omega),jiD h2 (by omega)⟩
open Go Go.Am Go.Gw
def htF(E:Nv)(s:List UInt8):Int:=((j0E E s).getD enz).ht
def j1H(E:Nv):List (List UInt8)→Int→Int
 |[],n=>n
 |s::r,n=>j1H E r (if htF E s>n then htF E s else n)
def j2l(E:Nv)(t:Tm):Int:=j1H E (j2J t) 0
def enOf(d:Dc)(h:Int):En:=⟨d.k,d.p,d.nm,d.ty,d.vl,h,[],0,0,0,[]⟩
def plain8(d:Dc):Bool:=j1F d && !decide (d.k=5)
def entryD(d:Dc)(h:Int):Except Int En:=match plain8 d with
 |true=>if d.k=2 then(if 1≤h∧h≤1048576 then .ok (enOf d h) else .error 12) else .ok (enOf d 0)
 |false=>.error 10
noncomputable def j3v(E:Nv)(n:Nat)(d:Dc):M Unit:=bnd (jgy E n [] d.ty) fun l=>bnd (j3w (!(decide (d.k=3) && !ja7 l)) 19) fun _=>match decide (d.k=1) with
 |true=>mok ()
 |false=>jbA E n [] d.vl d.ty
noncomputable def j2T(E:Nv)(n:Nat)(d:Dc)(tot:Int):Option (Except Int En×Int):=match plain8 d with
 |false=>some (.error 10,0)
 |true=>match getR d.nm E.tr with
  |some _=>some (.error 14,0)
  |none=>match j3v E n d tot with
   |none=>none
   |some (.error e,l)=>some (.error e,tot-l)
   |some (.ok _,l)=>some (entryD d (j2l E d.vl+1),tot-l)
section
variable{E:Nv}
def jdp(hE:NvOk E)(q:Int)(c:List Tm)(t:Tm):TotU (fun n=>j6E E n c t) q:=TotU.pre (fun l=>j1t _ _ l) (j0y (by omega)) fun _=>jly hE _ c t
def j5S(c:List Tm)(t:Tm):Mono fun n=>j6E E n c t:=fun _ _ h=>Le.bnd (Le.refl _) fun _=>j8M h c t
def j7p(n:Nat)(c:List Tm)(t:Tm):Fine (jgy E n c t):=j08 (j5L n c t) fun x=>jaL x
def jlM(c:List Tm)(t:Tm):Mono fun n=>jgy E n c t:=fun _ _ h=>Le.bnd (j5S c t _ _ h) fun x=>jjY h x
def job(hE:NvOk E)(q:Int)(c:List Tm)(t:Tm):TotU (fun n=>jgy E n c t) q:=TotU.bnd (jdp hE q c t) (fun n=>j5L n c t) (j5S c t) (fun x=>jir hE q x) fun x=>j8S x
def ji6(n:Nat)(c:List Tm)(t u:Tm):Fine (jbA E n c t u):=j08 (j5L n c t) fun a=>j08 (j3W c a u) fun ok=>j0y (by omega)
def jiv(c:List Tm)(t u:Tm):Mono fun n=>jbA E n c t u:=fun _ _ h=>Le.bnd (j5S c t _ _ h) fun a=>Le.bnd (jaM h c a u) fun _=>Le.refl _
def jlw(hE:NvOk E)(q:Int)(c:List Tm)(t u:Tm):TotU (fun n=>jbA E n c t u) q:=TotU.bnd (jdp hE q c t) (fun n=>j5L n c t) (j5S c t) (fun a=>TotU.bnd (jfW hE q c a u) (fun n=>j3W c a u) (j9O c a u) (fun ok=>j2z fun l=>j1t _ _ l) fun _=>j1b _) fun a=>fun _ _ h=>Le.bnd (jaM h c a u) fun _=>Le.refl _
def j4V(n:Nat)(d:Dc):Fine (j3v E n d):=j08 (j7p n _ _) fun l=>j08 (j0y (by omega)) fun _=>by
 cases decide (d.k=1)
 ·exact ji6 n _ _ _
 ·exact j0r _
def jov(hE:NvOk E)(q:Int)(d:Dc):TotU (fun n=>j3v E n d) q:=TotU.bnd (job hE q _ _) (fun n=>j7p n _ _) (jlM _ _) (fun l=>TotU.pre (fun l=>j1t _ _ l) (j0y (by omega)) fun _=>by
  cases decide (d.k=1)
  ·exact jlw hE q _ _ _
  ·exact j1M _) fun l=>fun _ _ h=>Le.bnd (Le.refl _) fun _=>by
   cases decide (d.k=1)
   ·exact jiv _ _ _ _ _ h
   ·exact Le.refl _
variable{d:Dc}{e:En}{h:Int}
def jbq{e:Int}(x:entryD d h=.error e):¬e=0:=by
 unfold entryD at x;split at x
 ·split at x
  ·split at x<;>cases x
   omega
  ·cases x
 ·cases x;omega
def jbp(x:entryD d h=.ok e):∃q,e=enOf d q:=by
 unfold entryD at x;split at x
 ·split at x
  ·split at x
   ·cases x;exact⟨_,rfl⟩
   ·cases x
  ·cases x;exact⟨_,rfl⟩
 ·cases x
def jgg(x:entryD d h=.ok e):j1y e=true:=by
 unfold entryD at x;cases hp:plain8 d with
 |false=>rw[hp] at x;cases x
 |true=>
  rw[hp] at x;unfold plain8 j1F at hp;have hq:∀q,((d.k=2→1≤q∧q≤1048576)∧(¬d.k=2→q=0))→j1y (enOf d q)=true:=fun q hq=>by
   unfold j1y ja4 j3y j9M enOf joX j3D jga;unfold j0s at *;dsimp only
   grind
  dsimp only at x;split at x
  ·split at x
   ·cases x;exact hq _ ⟨fun _=>by assumption,fun c=>absurd (by assumption) c⟩
   ·cases x
  ·cases x;exact hq _ ⟨fun c=>absurd c (by assumption),fun _=>rfl⟩
def jp5{n:Nat}{tot:Int}{r:Except Int En}{u:Int}(h0:0≤tot)(hx:j2T E n d tot=some (r,u)):0≤u∧u≤tot∧∀e,r=.error e→¬e=0:=by
 unfold j2T at hx;split at hx
 ·cases hx;exact⟨by omega,by omega,fun e h=>by cases h;omega⟩
 split at hx
 ·cases hx;exact⟨by omega,by omega,fun e h=>by cases h;omega⟩
 split at hx
 ·cases hx
 ·rename_i e l hj;cases hx;have hd:=(j4V n d).dn tot _ l h0 hj;exact⟨by omega,by omega,fun e' h=>by cases h;exact fun e0=>(j4V n d).nz _ _ (e0▸hj)⟩
 ·rename_i a l hj;cases hx;have hd:=(j4V n d).dn tot _ l h0 hj;exact⟨by omega,by omega,fun e h=>jbq h⟩
def jlY(hE:NvOk E)(d:Dc)(tot:Int)(h0:0≤tot):∃n r u,j2T E n d tot=some (r,u)∧0≤u∧u≤tot∧∀e,r=.error e→¬e=0:=by
 obtain⟨n,r,l,hx⟩:=jov hE tot d tot h0 (CX _);have hx:j3v E n d tot=some (r,l):=hx;have hd:=(j4V n d).dn tot _ l h0 hx;refine⟨n,?_⟩;unfold j2T;cases plain8 d with
 |false=>exact⟨_,_,rfl,by omega,by omega,fun e h=>by cases h;omega⟩
 |true=>
  dsimp only;cases getR d.nm E.tr with
  |some i=>exact⟨_,_,rfl,by omega,by omega,fun e h=>by cases h;omega⟩
  |none=>
   dsimp only;rw[hx];cases r with
   |error e=>exact⟨_,_,rfl,by omega,by omega,fun e h=>by cases h;exact fun e0=>(j4V n d).nz _ _ (e0▸hx)⟩
   |ok a=>exact⟨_,_,rfl,by omega,by omega,fun e h=>jbq h⟩
end
open Go Go.Am Go.Gw
abbrev xI:PV:=.ci [.ci [.bp 0 0]]
def IrT(f:FuncId)(args cs:List PV)(tot l:Int)(r:Except Int Tm)(l':Int):Prop:=match r with
 | .ok x=>(shT x=true∧sizT x≤2000)∧∃w,TmP x w∧Fr f args cs tot l (.ret [w,iv 0]) l'
 | .error e=>¬e=0∧Fr f args cs tot l (.ret [.ag zTm,iv e]) l'
def IrL(f:FuncId)(args cs:List PV)(tot l:Int)(r:Except Int Lv)(l':Int):Prop:=match r with
 | .ok x=>∃w,LvP x w∧Fr f args cs tot l (.ret [w,iv 0]) l'
 | .error e=>¬e=0∧Fr f args cs tot l (.ret [.ag zLv,iv e]) l'
def IrU(f:FuncId)(args cs:List PV)(tot l:Int)(r:Except Int Unit)(l':Int):Prop:=match r with
 | .ok _=>Fr f args cs tot l (.ret [iv 0]) l'
 | .error e=>¬e=0∧Fr f args cs tot l (.ret [iv e]) l'
def jcD(cs:List PV)(tot:Int)(I:List Tm→Tm→M Tm):Prop:=∀ctx cv,CtxP ctx cv→∀t v,TmP t v→shT t=true→∀l r l',0≤l→l≤tot→I ctx t l=some (r,l')→IrT 68 [xI,cv,v] cs tot l r l'
def kids{t:Tm}{v:PV}(h:TmP t v)(hs:shT t=true):∃n s b z xs c y ys,v=.ag [iv t.kind,iv n,sv s,.sl b z xs,.sl c y ys]∧(y=5∨ys=[])∧∀i:Nat,(i:Int)<j0Y t.kind→∃a,ys[i]?=some a∧TmP (t.arg i) a∧shT (t.arg i)=true:=by
 obtain⟨k1,n1,s1,l1,t1,b1,z1,x1,c1,y1,ys1,rfl,rfl,gA,hx1,-,-,qA,hA,-⟩:=h.open;obtain⟨a1,a2,a3,a4,a5,a6⟩:=j0w hs;refine⟨_,_,_,_,_,_,_,_,rfl,qA,fun i hi=>?_⟩
 have wA:(i:Int)<j0Y k1:=hi;have hg:=getD_at (ts:=t1) (i:=i) (by omega)
 obtain⟨a,ha,hp⟩:=hA.at hg;exact⟨a,ha,hp,a5 _ (AE hg)⟩
def jaj(cs:List PV)(tot l:Int):Fr 65 [.bp 0 0] cs tot l (.ret [xI]) l:=by
 have hc:=jhR cs tot l;refine gR Tryz.func65 ?_;repeat'(first|refine gW hc ?_)<;>conv=>whnf
 show VRet C1 _ 1 [.bp 1 0] [runB cs tot l,.box 112 [.ci [.bp 0 0]]] _
 exact j1g (.inr ⟨rfl,rfl⟩) rfl rfl rfl ⟨rfl,rfl⟩
def joa(cs:List PV)(tot l:Int):Fr 20 [xI] cs tot l (.ret [.ci [.bp 0 0]]) l:=by
 refine gR Tryz.func20 ?_;all_goals try conv=>whnf
 all_goals first|exact⟨rfl,rfl⟩|skip
 show VRet C1 _ 1 [.ci [.bp 0 0]] [.box 104 [.cp cs,iv (tot-l),iv l]] _
 exact j1g (.inr ⟨rfl,rfl⟩) rfl rfl rfl ⟨rfl,rfl⟩
def jdu(t:Tm)(v:PV)(h:TmP t v)(b:Bool)(z:Nat)(xs:List PV)(n:Nat)(hn:xs.length=n):Pf C1 67 [.sl b z xs,v] [bv (j0s t 4 n)]:=by
 have hr:=j0R t v h 4 n;subst hn;cases h.c;refine gR Tryz.func67 ?_;repeat'(first|refine gU ?_|refine gX hr ?_)<;>conv=>whnf
 all_goals rfl
def jih(ctx:List Tm)(b:Bool)(z:Nat)(xs:List PV)(hz:z=5∨xs=[])(qA:TmsP ctx xs):Pf C1 66 [.sl b z xs] [bv (j1G ctx [])]:=by
 have hlen:=qA.len;have he:j1G ctx []=(decide (ctx.length≤64)&&ctxF ctx 0):=by
  unfold j1G;simp
 rw[he];refine gR Tryz.func66 ?_;repeat'(first|refine gU ?_|apply gE<;>intro h)<;>conv=>whnf
 ·refine j0O ?_;rw[decide_eq_false (by omega)]
  rfl
 rw[decide_eq_true (by omega:ctx.length≤64)]
 refine j04 (G:=Nat) (fun i=>[(10,iv i)]) (fun _=>_) (fun i=>i≤ctx.length∧ctxF (ctx.drop i) i=ctxF ctx 0) (fun i=>ctx.length-i) 0 ⟨by omega,rfl⟩ rfl rfl ?_
 rintro i ⟨hi,hA⟩;dsimp only at hi hA⊢;repeat'(first|refine gU ?_|apply gE<;>intro h)<;>conv=>whnf
 ·have wA:i<ctx.length:=by omega
  obtain⟨tc,gA⟩:∃tc,ctx[i]?=some tc:=⟨_,AA wA⟩;obtain⟨v,hv,hl⟩:=qA.at gA;have hw:=jdu tc v hl (b&&Nat.beq i xs.length) z ((xs.take i).drop 0) i (by simp;omega)
  have hB:(i.ble xs.length&&Nat.ble 0 i)=true:=by simp only[FS,AB];omega
  cases hl.c;rw[jg4 gA] at hA;repeat'(first|refine gU ?_|apply gM<;>intro h|refine VIdx.mk _ hv ?_|refine gZ hz ?_|refine VOk.mk hB ?_|refine j01 hw fun _=>?_|apply gK)<;>conv=>whnf
  ·have hr:j0s tc 4 i=true:=by assumption
   rw[hr,CG] at hA;exact VAgain.mk _ rfl _ (j0a rfl rfl rfl) ⟨i+1,⟨wA,hA⟩,by omega,rfl⟩
  ·have hr:j0s tc 4 i=false:=by assumption
   rw[hr,CV] at hA;rw[←hA];rfl
 ·have hl:i=ctx.length:=by omega
  subst hl;rw[BU] at hA;refine j0O ?_;rw[←hA];simp[ctxF]
def jop(t:Tm)(v:PV)(h:TmP t v):Pf C1 180 [v,bv false] [.ag zTm,iv 15]:=by
 cases h.c;refine gR Tryz.func180 ?_;repeat'(refine gU ?_)<;>conv=>whnf
 all_goals rfl
def joq(t:Tm)(v:PV)(h:TmP t v)(hn:j0A t≤2000):Pf C1 180 [v,bv true] [v,iv 0]:=by
 have h1:=j2h t v h;cases h.c;refine gR Tryz.func180 ?_;repeat'(first|refine gU ?_|apply gE<;>intro h|refine gX h1 ?_)<;>conv=>whnf
 all_goals first|rfl|(exfalso;omega)
def jlA(t:Tm)(v:PV)(h:TmP t v)(hn:¬j0A t≤2000):Pf C1 180 [v,bv true] [.ag zTm,iv 15]:=by
 have h1:=j2h t v h;cases h.c;refine gR Tryz.func180 ?_;repeat'(first|refine gU ?_|apply gE<;>intro h|refine gX h1 ?_)<;>conv=>whnf
 all_goals first|rfl|(exfalso;omega)
def j8K(o:Option Tm)(wo:PV)(h:TmP (o.getD tz) wo){l l':Int}{r:Except Int Tm}(hx:j4W o l=some (r,l')):l'=l∧match r with
  | .ok x=>o=some x∧sizT x≤2000∧Pf C1 180 [wo,bv o.isSome] [wo,iv 0]
  | .error e=>e=15∧Pf C1 180 [wo,bv o.isSome] [.ag zTm,iv 15]:=by
 cases o with
 |none=>
  cases hx;exact⟨rfl,rfl,jop _ _ h⟩
 |some x=>
  simp only[j4W,bnd,optF,mok] at hx
  by_cases hn:j0A x≤2000
  ·rw[decide_eq_true hn] at hx;cases hx;exact⟨rfl,rfl,j3x hn,joq _ _ h hn⟩
  ·rw[decide_eq_false hn] at hx;cases hx;exact⟨rfl,rfl,jlA _ _ h hn⟩
def j9L(cs:List PV)(tot l:Int)(k n:Int)(s:List UInt8)(b:Bool)(z:Nat)(xs:List PV)(c:Bool)(y:Nat)(ys:List PV)(e:Int)(he:¬e=0):Fr 108 [xI,.ag [iv k,iv n,sv s,.sl b z xs,.sl c y ys],iv e] cs tot l (.ret [.ag zLv,iv e]) l:=by
 refine gR Tryz.func108 ?_;repeat'(refine gU ?_)<;>conv=>whnf
 all_goals exact gJ
def j5R(E:Nv)(cs:List PV)(hE:NvP E (.cp cs))(tot:Int)(ht:tot≤1048576)(n:Nat)(x:Tm)(v:PV)(h:TmP x v)(l:Int)(r:Except Int Lv)(l':Int)(h0:0≤l)(h1:l≤tot)(hx:levB E n x l=some (r,l')):IrL 108 [xI,v,iv 0] cs tot l r l':=by
 have hr:=j5E cs tot l;have hv:=h;cases h.c;unfold levB at hx;rcases j0b hx with⟨e,q1,rfl⟩|⟨s,la,q1,q2⟩
 ·have he:¬e=0:=fun e0=>by
   subst e0;exact(j0I (E:=E) n x).nz _ _ q1
  obtain⟨-,hf⟩:=j8m E cs hE tot ht n x _ hv l _ l' h0 h1 q1;simp only[errV] at hf;refine⟨he,?_⟩;refine gR Tryz.func108 ?_;repeat'(first|refine gU ?_|refine gW hr ?_|refine gW hf ?_|apply gK)<;>conv=>whnf
  all_goals exact gJ
 obtain⟨hs,hf⟩:=j8m E cs hE tot ht n x _ hv l _ la h0 h1 q1;obtain⟨qB,gB,qA⟩:=hs s rfl;simp only[errV] at hf;unfold TmW at qA;generalize encT s=ws at *;obtain⟨k3,n3,s3,l3,t3,b3,z3,x3,c3,y3,ys3,e3,rfl,gA,wA,-⟩:=qA.open;subst e3;have ek:(Tm.mk k3 n3 s3 l3 t3).kind=k3:=rfl;rw[ek] at q2
 by_cases hA:k3=2
 ·rw[decide_eq_true hA] at q2;cases q2;have wB:l3.length=1:=by
   have:=(j0w qB).2.2.2.1 (by omega)
   subst hA;have e:j0G 2=1:=rfl;omega
  obtain⟨vl,hB,hl⟩:=wA.at (show l3[0]?=some (l3.getD 0 (.mk 0 0 [])) by rw[AQ,AA (by omega)];rfl)
  refine⟨vl,hl,?_⟩;cases hl.c;subst hA;refine gR Tryz.func108 ?_;repeat'(first|refine gU ?_|refine gW hr ?_|refine gW hf ?_|refine VIdx.mk _ hB ?_|refine gZ gA ?_|apply gK)<;>conv=>whnf
  all_goals exact gJ
 ·rw[decide_eq_false hA] at q2;cases q2;refine⟨by omega,?_⟩
  refine gR Tryz.func108 ?_;repeat'(first|refine gU ?_|refine gW hr ?_|refine gW hf ?_|apply gK)<;>conv=>whnf
  all_goals exact gJ
open Go Go.Am Go.Gw
section
variable{E:Nv}{cs:List PV}{tot:Int}{n:Nat}{I:List Tm→Tm→M Tm}
def j4Z(hE:NvP E (.cp cs))(ht:tot≤1048576)(hI:jcD cs tot I)(fI:∀c t,Fine (I c t))(ctx:List Tm)(cv:PV)(hc:CtxP ctx cv)(t:Tm)(v:PV)(h:TmP t v)(hs:shT t=true)(l:Int)(r:Except Int Lv)(l':Int)(h0:0≤l)(h1:l≤tot)(hx:j7O E n I ctx t l=some (r,l')):IrL 109 [xI,cv,v] cs tot l r l':=by
 have qA:=hc;obtain⟨b,z,xs,rfl,-⟩:=qA;have h':=h;cases h'.c;rcases j0b hx with⟨e,q1,rfl⟩|⟨x,la,q1,q2⟩
 ·obtain⟨he,hf⟩:=hI ctx _ hc t _ h hs l _ l' h0 h1 q1;have hl:=j9L cs tot l' 0 0 [] true 0 [] true 0 [] e he;refine⟨he,?_⟩;refine gR Tryz.func109 ?_;repeat'(first|refine gU ?_|refine gW hf ?_|refine gW hl ?_)<;>conv=>whnf
  all_goals exact gJ
 ·obtain⟨-,w,hw,hf⟩:=hI ctx _ hc t _ h hs l _ la h0 h1 q1;have gA:=(fI ctx t).dn l _ la h0 q1;have hl:=j5R E cs hE tot ht n x w hw la r l' (by omega) (by omega) q2
  cases hw.c;cases r with
  |error e=>
   obtain⟨he,hl⟩:=hl;refine⟨he,?_⟩;refine gR Tryz.func109 ?_;repeat'(first|refine gU ?_|refine gW hf ?_|refine gW hl ?_)<;>conv=>whnf
   all_goals exact gJ
  |ok y=>
   obtain⟨wy,hA,hl⟩:=hl;refine⟨wy,hA,?_⟩;cases hA.c;refine gR Tryz.func109 ?_;repeat'(first|refine gU ?_|refine gW hf ?_|refine gW hl ?_)<;>conv=>whnf
   all_goals exact gJ
def j7q(hE:NvP E (.cp cs))(ht:tot≤1048576)(hI:jcD cs tot I)(fI:∀c t,Fine (I c t))(ctx:List Tm)(cv:PV)(hc:CtxP ctx cv)(t:Tm)(v:PV)(h:TmP t v)(hs:shT t=true)(u:Tm)(uv:PV)(hu:TmP u uv)(l:Int)(r:Except Int Unit)(l':Int)(h0:0≤l)(h1:l≤tot)(hx:jaa E n I ctx t u l=some (r,l')):IrU 179 [xI,cv,v,uv] cs tot l r l':=by
 have wA:=hc;obtain⟨b,z,xs,rfl,hz,hA,qB,-⟩:=wA;have h':=h;have gA:=hu;cases h'.c;cases gA.c;rcases j0b hx with⟨e,q1,rfl⟩|⟨a,la,q1,q2⟩
 ·obtain⟨he,hf⟩:=hI ctx _ hc t _ h hs l _ l' h0 h1 q1;refine⟨he,?_⟩;refine gR Tryz.func179 ?_;repeat'(first|refine gU ?_|refine gW hf ?_)<;>conv=>whnf
  all_goals exact gJ
 obtain⟨-,w,hw,hf⟩:=hI ctx _ hc t _ h hs l _ la h0 h1 q1;have hB:=(fI ctx t).dn l _ la h0 q1;have qA:=hw;cases qA.c;rcases j0b q2 with⟨e,q3,rfl⟩|⟨ok,lb,q3,q4⟩
 ·have he:¬e=0:=fun e0=>by
   subst e0;exact(j3W (E:=E) (n:=n) ctx a u).nz _ _ q3
  have hg:=j8w E cs hE tot ht n ctx b z xs hz hA (by omega) a _ hw u _ hu la _ l' (by omega) (by omega) q3
  simp only[errB] at hg;refine⟨he,?_⟩;refine gR Tryz.func179 ?_;repeat'(first|refine gU ?_|refine gW hf ?_|refine gW hg ?_|apply gK)<;>conv=>whnf
  all_goals exact gJ
 have hg:=j8w E cs hE tot ht n ctx b z xs hz hA (by omega) a _ hw u _ hu la _ lb (by omega) (by omega) q3
 simp only[errB] at hg;cases ok with
 |true=>
  cases q4;show Fr _ _ _ _ _ (.ret [iv 0]) _
  refine gR Tryz.func179 ?_;repeat'(first|refine gU ?_|refine gW hf ?_|refine gW hg ?_|apply gK)<;>conv=>whnf
  all_goals exact gJ
 |false=>
  cases q4;refine⟨by omega,?_⟩
  refine gR Tryz.func179 ?_;repeat'(first|refine gU ?_|refine gW hf ?_|refine gW hg ?_|apply gK)<;>conv=>whnf
  all_goals exact gJ
def js3(ctx:List Tm)(b:Bool)(z:Nat)(xs:List PV)(hz:z=5∨(xs=[]∧b=true∧z=0))(gA:TmsP ctx xs)(hl:ctx.length<64)(k1 n1:Int)(s1:List UInt8)(b1:Bool)(z1:Nat)(x1:List PV)(c1:Bool)(y1:Nat)(ys1:List PV)(hA:(xs++[PV.ag [iv k1,iv n1,sv s1,.sl b1 z1 x1,.sl c1 y1 ys1]]).all (pur 6)=true)(k2 n2:Int)(s2:List UInt8)(b2:Bool)(z2:Nat)(x2:List PV)(c2:Bool)(y2:Nat)(ys2:List PV)(l l':Int)(k3 n3:Int)(s3:List UInt8)(b3:Bool)(z3:Nat)(x3:List PV)(c3:Bool)(y3:Nat)(ys3:List PV)(e:Int)
  (hf:Fr 68 [xI,.sl false 5 (xs++[.ag [iv k1,iv n1,sv s1,.sl b1 z1 x1,.sl c1 y1 ys1]]),.ag [iv k2,iv n2,sv s2,.sl b2 z2 x2,.sl c2 y2 ys2]] cs tot l (.ret [.ag [iv k3,iv n3,sv s3,.sl b3 z3 x3,.sl c3 y3 ys3],iv e]) l') :
  Fr 181 [xI,.sl b z xs,.ag [iv k1,iv n1,sv s1,.sl b1 z1 x1,.sl c1 y1 ys1],.ag [iv k2,iv n2,sv s2,.sl b2 z2 x2,.sl c2 y2 ys2]] cs tot l (.ret [.ag [iv k3,iv n3,sv s3,.sl b3 z3 x3,.sl c3 y3 ys3],iv e]) l':=by
 have hlen:=gA.len;have hB:(xs.length.ble xs.length&&Nat.ble 0 xs.length)=true:=by simp
 have wA:Nat.beq xs.length xs.length=true:=by simp
 generalize hX:xs++[.ag [iv k1,iv n1,sv s1,.sl b1 z1 x1,.sl c1 y1 ys1]]=X at hf hA;have hx:(xs.take xs.length).drop 0++[.ag [iv k1,iv n1,sv s1,.sl b1 z1 x1,.sl c1 y1 ys1]]=X:=by rw[BT,←hX];rfl
 have qA:X.length=xs.length+1:=by rw[←hX];simp
 rcases hz with rfl|⟨rfl,rfl,rfl⟩
 ·refine gR Tryz.func181 ?_;repeat'(first|refine gU ?_|apply gE<;>intro h|refine VOk.mk hB ?_|refine VOk.mk wA ?_|refine VOk.mk (j8F (w:=80) (r:=140737488355328) rfl rfl rfl (by simp;omega) (by simp;omega)) ?_|apply gK)<;>conv=>whnf
  ·exfalso;omega
  refine j9i (st1:=[runB cs tot l,.box 25 [iv k1,iv n1,sv s1,.sl b1 z1 x1,.sl c1 y1 ys1],.box 25 [iv k2,iv n2,sv s2,.sl b2 z2 x2,.sl c2 y2 ys2],.box 25 zTm,.row true 25 5 X]) (args':=[xI,.sl false 5 X,.ag [iv k2,iv n2,sv s2,.sl b2 z2 x2,.sl c2 y2 ys2]]) ?_ hf rfl rfl rfl rfl rfl rfl ?_
  ·show mapS (pubV C1 8) _ _=_
   refine j03 rfl ?_;refine j03 (j0p (b:=false) (T:=25) (z:=5) (xs:=X) ?_ ?_ hA) ?_
   ·rw[←hx];rfl
   ·rw[qA];simp
   ·exact j03 rfl j0h
  repeat'(refine gU ?_)<;>conv=>whnf
  all_goals exact gJ
 ·refine gR Tryz.func181 ?_;repeat'(first|refine gU ?_|apply gK)<;>conv=>whnf
  refine j9i (st1:=[runB cs tot l,.box 25 [iv k1,iv n1,sv s1,.sl b1 z1 x1,.sl c1 y1 ys1],.box 25 [iv k2,iv n2,sv s2,.sl b2 z2 x2,.sl c2 y2 ys2],.box 25 zTm,.row true 25 5 X]) (args':=[xI,.sl false 5 X,.ag [iv k2,iv n2,sv s2,.sl b2 z2 x2,.sl c2 y2 ys2]]) ?_ hf rfl rfl rfl rfl rfl rfl ?_
  ·show mapS (pubV C1 8) _ _=_
   refine j03 rfl ?_;refine j03 (j0p (b:=false) (T:=25) (z:=5) (xs:=X) ?_ ?_ hA) ?_
   ·rw[←hx];rfl
   ·rw[qA];simp
   ·exact j03 rfl j0h
  repeat'(refine gU ?_)<;>conv=>whnf
  all_goals exact gJ
def j6H(hI:jcD cs tot I)(ctx:List Tm)(cv:PV)(hc:CtxP ctx cv)(t:Tm)(v:PV)(h:TmP t v)(hs:shT t=true)(u:Tm)(uv:PV)(hu:TmP u uv)(su:shT u=true)(l:Int)(r:Except Int Tm)(l':Int)(h0:0≤l)(h1:l≤tot)(hx:jak I ctx t u l=some (r,l')):IrT 181 [xI,cv,v,uv] cs tot l r l':=by
 have qB:=hc;obtain⟨b,z,xs,rfl,hz,hA,gB,wA⟩:=qB;have hlen:=hA.len;have h':=h;have gA:=hu;obtain⟨k1,n1,s1,l1,t1,b1,z1,x1,c1,y1,ys1,-,rfl,-⟩:=h'.open;cases gA.c;rcases j0b hx with⟨e,q1,rfl⟩|⟨c2',la,q1,q2⟩
 ·unfold j9k at q1
  by_cases hl:ctx.length<64
  ·rw[decide_eq_true hl] at q1;cases q1
  ·rw[decide_eq_false hl] at q1;cases q1;refine⟨by omega,?_⟩
   refine gR Tryz.func181 ?_;repeat'(first|refine gU ?_|apply gE<;>intro h)<;>conv=>whnf
   all_goals exact gJ
 unfold j9k at q1
 by_cases hl:ctx.length<64
 rotate_left
 ·rw[decide_eq_false hl] at q1;cases q1
 rw[decide_eq_true hl] at q1;cases q1;have ha:TmsP (ctx++[t]) (xs++[.ag [iv k1,iv n1,sv s1,.sl b1 z1 x1,.sl c1 y1 ys1]]):=hA.append ⟨_,[],rfl,h,rfl⟩;have hB:CtxP (ctx++[t]) (.sl false 5 (xs++[.ag [iv k1,iv n1,sv s1,.sl b1 z1 x1,.sl c1 y1 ys1]])):=⟨_,_,_,rfl,.inl rfl,ha,by simp;omega,fun x hx=>by
  rcases BJ.1 hx with hx|hx
  ·exact wA x hx
  ·rw[BD.1 hx];exact hs⟩
 have hf:=hI _ _ hB u _ hu su l r l' h0 h1 q2;cases r with
 |error e=>
  obtain⟨he,hf⟩:=hf;exact⟨he,js3 ctx b z xs hz hA hl _ _ _ _ _ _ _ _ _ ha.pure6 _ _ _ _ _ _ _ _ _ l l' _ _ _ _ _ _ _ _ _ e hf⟩
 |ok x=>
  obtain⟨qA,w,hw,hf⟩:=hf;refine⟨qA,w,hw,?_⟩;cases hw.c;exact js3 ctx b z xs hz hA hl _ _ _ _ _ _ _ _ _ ha.pure6 _ _ _ _ _ _ _ _ _ l l' _ _ _ _ _ _ _ _ _ 0 hf
end
open Go Go.Am Go.Gw
section
variable{E:Nv}{cs:List PV}{tot:Int}{n:Nat}{I:List Tm→Tm→M Tm}
def jqw(hE:NvP E (.cp cs))(ht:tot≤1048576)(hI:jcD cs tot I)(fI:∀c t,Fine (I c t))(ctx:List Tm)(cv:PV)(hc:CtxP ctx cv)(t:Tm)(v:PV)(h:TmP t v)(hs:shT t=true)(hk:t.kind=4)(l:Int)(r:Except Int Tm)(l':Int)(h0:0≤l)(h1:l≤tot)(hx:jt7 E n I ctx t l=some (r,l')):IrT 111 [xI,cv,v] cs tot l r l':=by
 have hF:=hc;obtain⟨b,z,xs,rfl,-⟩:=hF;obtain⟨n1,s1,b1,z1,x1,c1,y1,ys1,rfl,qA,hB⟩:=kids h hs;obtain⟨a0,wA,p0,i0⟩:=hB 0 (by rw[hk];decide)
 obtain⟨a1,wC,p1,i1⟩:=hB 1 (by rw[hk];decide)
 have p0':=p0;have p1':=p1;cases p0'.c;cases p1'.c;unfold jt7 at hx;rcases j0b hx with⟨e,q1,rfl⟩|⟨y,la,q1,q2⟩
 ·obtain⟨he,hf⟩:=hI ctx _ hc _ _ p0 i0 l _ l' h0 h1 q1;refine⟨he,?_⟩;refine gR Tryz.func111 ?_;repeat'(first|refine gU ?_|refine VIdx.mk _ wA ?_|refine gZ qA ?_|refine gW hf ?_)<;>conv=>whnf
  all_goals exact gJ
 obtain⟨-,wy,qC,hf⟩:=hI ctx _ hc _ _ p0 i0 l _ la h0 h1 q1;have gF:=(fI ctx (t.arg 0)).dn l _ la h0 q1;have hr:=j5E cs tot la;have hC:=qC;cases hC.c;rcases j0b q2 with⟨e,q3,rfl⟩|⟨f,lb,q3,q4⟩
 ·have he:¬e=0:=fun e0=>by
   subst e0;exact(j0I (E:=E) n y).nz _ _ q3
  obtain⟨-,hg⟩:=j8m E cs hE tot ht n y _ qC la _ l' (by omega) (by omega) q3
  simp only[errV] at hg;refine⟨he,?_⟩;refine gR Tryz.func111 ?_;repeat'(first|refine gU ?_|refine VIdx.mk _ wA ?_|refine gZ qA ?_|refine gW hf ?_|refine gW hr ?_|refine gW hg ?_|apply gK)<;>conv=>whnf
  all_goals exact gJ
 obtain⟨kE,hg⟩:=j8m E cs hE tot ht n y _ qC la _ lb (by omega) (by omega) q3
 have qF:=(j0I (E:=E) n y).dn la _ lb (by omega) q3
 obtain⟨j1,j2,qD⟩:=kE f rfl;simp only[errV] at hg;unfold TmW at qD;generalize encT f=wf at *;obtain⟨n5,s5,b5,z5,x5,c5,y5,ys5,rfl,wB,hA⟩:=kids qD j1;rcases j0b q4 with⟨e,q5,rfl⟩|⟨u0,lc,q5,q6⟩
 ·obtain⟨rfl,d2⟩:=j1k q5;rcases d2 with⟨-,d2⟩|⟨d1,d2⟩
  ·cases d2
  cases d2;have kF:=of_decide_eq_false d1;refine⟨by omega,?_⟩
  refine gR Tryz.func111 ?_;repeat'(first|refine gU ?_|refine VIdx.mk _ wA ?_|refine gZ qA ?_|refine gW hf ?_|refine gW hr ?_|refine gW hg ?_|apply gK)<;>conv=>whnf
  all_goals exact gJ
 obtain⟨rfl,d2⟩:=j1k q5;rcases d2 with⟨d1,-⟩|⟨-,d2⟩
 rotate_left
 ·cases d2
 have hD:=of_decide_eq_true d1;obtain⟨d0,gC,o0,m0⟩:=hA 0 (by rw[hD];decide)
 obtain⟨e1,gD,o1,m1⟩:=hA 1 (by rw[hD];decide)
 have o0':=o0;have o1':=o1;cases o0'.c;cases o1'.c;rcases j0b q6 with⟨e,q7,rfl⟩|⟨u1,ld,q7,q8⟩
 ·obtain⟨he,gB⟩:=j7q hE ht hI fI ctx _ hc _ _ p1 i1 _ _ o0 lc _ l' (by omega) (by omega) q7
  refine⟨he,?_⟩;refine gR Tryz.func111 ?_;repeat'(first|refine gU ?_|refine VIdx.mk _ wA ?_|refine VIdx.mk _ wC ?_|refine gZ qA ?_|refine gW hf ?_|refine gW hr ?_|refine gW hg ?_|refine VIdx.mk _ gC ?_|refine gZ wB ?_|refine gW gB ?_|apply gK)<;>conv=>whnf
  all_goals exact gJ
 have gB:Fr _ _ _ _ _ (.ret [iv 0]) ld:=j7q hE ht hI fI ctx _ hc _ _ p1 i1 _ _ o0 lc _ ld (by omega) (by omega) q7
 have hN:=j7k _ _ o1 [t.arg 1] true 5 _ (.inl rfl) ⟨_,[],rfl,p1,rfl⟩ (by simp)
 have qB:TmW ((InstF (f.arg 1) [t.arg 1]).getD tz):=j7M fun x hx=>j9n (by simpa using p1.w) o1.w hx
 rw[j5W] at hN;have qE:∀x,InstF (f.arg 1) [t.arg 1]=some x→shT x=true:=fun x hx=>j7j hx
 generalize InstF (f.arg 1) [t.arg 1]=o at *;unfold TmW at qB;obtain⟨k9,n9,s9,b9,z9,x9,c9,y9,ys9,wE⟩:=j06 (o.getD tz);rw[wE] at hN qB;obtain⟨rfl,gA⟩:=j8K o _ qB q8;cases r with
 |error e=>
  obtain⟨rfl,gA⟩:=gA;refine⟨by omega,?_⟩
  refine gR Tryz.func111 ?_;repeat'(first|refine gU ?_|refine VIdx.mk _ wA ?_|refine VIdx.mk _ wC ?_|refine gZ qA ?_|refine gW hf ?_|refine gW hr ?_|refine gW hg ?_|refine VIdx.mk _ gC ?_|refine VIdx.mk _ gD ?_|refine gZ wB ?_|refine gW gB ?_|refine j01 hN fun _=>?_|refine j01 gA fun _=>?_|apply gK)<;>conv=>whnf
  all_goals exact gJ
 |ok x=>
  obtain⟨rfl,wD,gA⟩:=gA;refine⟨⟨qE _ rfl,wD⟩,_,qB,?_⟩;refine gR Tryz.func111 ?_;repeat'(first|refine gU ?_|refine VIdx.mk _ wA ?_|refine VIdx.mk _ wC ?_|refine gZ qA ?_|refine gW hf ?_|refine gW hr ?_|refine gW hg ?_|refine VIdx.mk _ gC ?_|refine VIdx.mk _ gD ?_|refine gZ wB ?_|refine gW gB ?_|refine j01 hN fun _=>?_|refine j01 gA fun _=>?_|apply gK)<;>conv=>whnf
  all_goals exact gJ
def jqz(hE:NvP E (.cp cs))(ht:tot≤1048576)(hI:jcD cs tot I)(fI:∀c t,Fine (I c t))(ctx:List Tm)(cv:PV)(hc:CtxP ctx cv)(t:Tm)(v:PV)(h:TmP t v)(hs:shT t=true)(hk:t.kind=5)(l:Int)(r:Except Int Tm)(l':Int)(h0:0≤l)(h1:l≤tot)(hx:jt8 E n I ctx t l=some (r,l')):IrT 112 [xI,cv,v] cs tot l r l':=by
 have wC:=hc;obtain⟨b,z,xs,rfl,-⟩:=wC;obtain⟨n1,s1,b1,z1,x1,c1,y1,ys1,rfl,wA,gA⟩:=kids h hs;obtain⟨a0,hB,p0,i0⟩:=gA 0 (by rw[hk];decide)
 obtain⟨a1,qB,p1,i1⟩:=gA 1 (by rw[hk];decide)
 have p0':=p0;have p1':=p1;cases p0'.c;cases p1'.c;unfold jt8 at hx;rcases j0b hx with⟨e,q1,rfl⟩|⟨y,la,q1,q2⟩
 ·obtain⟨he,hf⟩:=j4Z hE ht hI fI ctx _ hc _ _ p0 i0 l _ l' h0 h1 q1;refine⟨he,?_⟩;refine gR Tryz.func112 ?_;repeat'(first|refine gU ?_|refine VIdx.mk _ hB ?_|refine gZ wA ?_|refine gW hf ?_)<;>conv=>whnf
  all_goals exact gJ
 obtain⟨wy,qC,hf⟩:=j4Z hE ht hI fI ctx _ hc _ _ p0 i0 l _ la h0 h1 q1;have qD:=(j2e (E:=E) (n:=n) fI ctx (t.arg 0)).dn l _ la h0 q1;cases qC.c;rcases j0b q2 with⟨e,q3,rfl⟩|⟨y2,lb,q3,q4⟩
 ·obtain⟨he,hw⟩:=j6H hI ctx _ hc _ _ p0 i0 _ _ p1 i1 la _ l' (by omega) (by omega) q3
  refine⟨he,?_⟩;refine gR Tryz.func112 ?_;repeat'(first|refine gU ?_|refine VIdx.mk _ hB ?_|refine VIdx.mk _ qB ?_|refine gZ wA ?_|refine gW hf ?_|refine gW hw ?_|apply gK)<;>conv=>whnf
  all_goals exact gJ
 obtain⟨⟨hC,hD⟩,wb,gB,hw⟩:=j6H hI ctx _ hc _ _ p0 i0 _ _ p1 i1 la _ lb (by omega) (by omega) q3
 obtain⟨wp,qA,hp⟩:=jrS y2 _ gB [t.arg 0] true 5 _ (.inl rfl) ⟨_,[],rfl,p0,rfl⟩ (by simp)
 have gC:shT (overR 6 [t.arg 0] y2)=true:=jaq (by omega) rfl (by omega) (fun _=>rfl) (fun x hx=>by
  rcases AN.1 hx with rfl|hx
  ·exact i0
  ·rw[BD.1 hx];exact hC) (by omega)
 have qA:TmP ((some (overR 6 [t.arg 0] y2)).getD tz) wp:=qA;obtain⟨rfl,hA⟩:=j8K _ wp qA q4;cases gB.c;cases qA.c;cases r with
 |error e=>
  obtain⟨rfl,hA⟩:=hA;refine⟨by omega,?_⟩
  refine gR Tryz.func112 ?_;repeat'(first|refine gU ?_|refine VIdx.mk _ hB ?_|refine VIdx.mk _ qB ?_|refine gZ wA ?_|refine gW hf ?_|refine gW hw ?_|refine j01 hp fun _=>?_|refine j01 hA fun _=>?_|apply gK)<;>conv=>whnf
  all_goals exact gJ
 |ok x=>
  obtain⟨e,wB,hA⟩:=hA;cases e;refine⟨⟨gC,wB⟩,_,qA,?_⟩;refine gR Tryz.func112 ?_;repeat'(first|refine gU ?_|refine VIdx.mk _ hB ?_|refine VIdx.mk _ qB ?_|refine gZ wA ?_|refine gW hf ?_|refine gW hw ?_|refine j01 hp fun _=>?_|refine j01 hA fun _=>?_|apply gK)<;>conv=>whnf
  all_goals exact gJ
end
open Go Go.Am Go.Gw
section
variable{E:Nv}{cs:List PV}{tot:Int}{n:Nat}{I:List Tm→Tm→M Tm}
def jlH(x:Lv)(v:PV)(h:LvP x v):Pf C1 106 [v,iv 4] [bv (j0C x 4)]:=j2W x v h 4
def jtd(hE:NvP E (.cp cs))(ht:tot≤1048576)(hI:jcD cs tot I)(fI:∀c t,Fine (I c t))(ctx:List Tm)(cv:PV)(hc:CtxP ctx cv)(t:Tm)(v:PV)(h:TmP t v)(hs:shT t=true)(hk:t.kind=6)(l:Int)(r:Except Int Tm)(l':Int)(h0:0≤l)(h1:l≤tot)(hx:ipiB E n I ctx t l=some (r,l')):IrT 113 [xI,cv,v] cs tot l r l':=by
 have qD:=hc;obtain⟨b,z,xs,rfl,-⟩:=qD;obtain⟨n1,s1,b1,z1,x1,c1,y1,ys1,rfl,hA,gA⟩:=kids h hs;obtain⟨a0,wA,p0,i0⟩:=gA 0 (by rw[hk];decide)
 obtain⟨a1,qB,p1,i1⟩:=gA 1 (by rw[hk];decide)
 have p0':=p0;have p1':=p1;cases p0'.c;cases p1'.c;unfold ipiB at hx;rcases j0b hx with⟨e,q1,rfl⟩|⟨lv,la,q1,q2⟩
 ·obtain⟨he,hf⟩:=j4Z hE ht hI fI ctx _ hc _ _ p0 i0 l _ l' h0 h1 q1;refine⟨he,?_⟩;refine gR Tryz.func113 ?_;repeat'(first|refine gU ?_|refine VIdx.mk _ wA ?_|refine gZ hA ?_|refine gW hf ?_)<;>conv=>whnf
  all_goals exact gJ
 obtain⟨wy,wB,hf⟩:=j4Z hE ht hI fI ctx _ hc _ _ p0 i0 l _ la h0 h1 q1;have gD:=(j2e (E:=E) (n:=n) fI ctx (t.arg 0)).dn l _ la h0 q1;have gB:=wB;cases gB.c;rcases j0b q2 with⟨e,q3,rfl⟩|⟨mv,lc,q3,q6⟩
 ·rcases j0b q3 with⟨e',q4,e2⟩|⟨y,lb,q4,q5⟩
  ·cases e2;obtain⟨he,hw⟩:=j6H hI ctx _ hc _ _ p0 i0 _ _ p1 i1 la _ l' (by omega) (by omega) q4
   have hg:=j9L cs tot l' 0 0 [] true 0 [] true 0 [] e he;refine⟨he,?_⟩;refine gR Tryz.func113 ?_;repeat'(first|refine gU ?_|refine VIdx.mk _ wA ?_|refine VIdx.mk _ qB ?_|refine gZ hA ?_|refine gW hf ?_|refine gW hw ?_|refine gW hg ?_|apply gK)<;>conv=>whnf
   all_goals exact gJ
  ·obtain⟨-,wb,qA,hw⟩:=j6H hI ctx _ hc _ _ p0 i0 _ _ p1 i1 la _ lb (by omega) (by omega) q4
   have wC:=(j3e fI ctx (t.arg 0) (t.arg 1)).dn la _ lb (by omega) q4
   obtain⟨he,hg⟩:=j5R E cs hE tot ht n y _ qA lb _ l' (by omega) (by omega) q5
   cases qA.c;refine⟨he,?_⟩;refine gR Tryz.func113 ?_;repeat'(first|refine gU ?_|refine VIdx.mk _ wA ?_|refine VIdx.mk _ qB ?_|refine gZ hA ?_|refine gW hf ?_|refine gW hw ?_|refine gW hg ?_|apply gK)<;>conv=>whnf
   all_goals exact gJ
 rcases j0b q3 with⟨e',q4,e2⟩|⟨y,lb,q4,q5⟩
 ·cases e2
 obtain⟨-,wb,qA,hw⟩:=j6H hI ctx _ hc _ _ p0 i0 _ _ p1 i1 la _ lb (by omega) (by omega) q4
 have wC:=(j3e fI ctx (t.arg 0) (t.arg 1)).dn la _ lb (by omega) q4
 obtain⟨wm,hB,hg⟩:=j5R E cs hE tot ht n y _ qA lb _ lc (by omega) (by omega) q5
 cases qA.c;have hM:=jfV lv _ wB mv _ hB;have qC:LvP (j9s lv mv) (encL (j9s lv mv)):=by
  unfold j9s;split
  ·exact jbP (by simp) (by simp)
  ·split
   ·exact hB.w
   ·exact jbP (by simp) (fun x hx=>by
     rcases AN.1 hx with rfl|hx
     ·exact wB.w
     ·rw[BD.1 hx];exact hB.w)
 generalize j9s lv mv=q at *;have hR:=jlH q _ qC;have gC:=je3 q _ qC;have hC:=jfj qC;obtain⟨k7,n7,b7,z7,x7,hD⟩:=j0t q;unfold jmo at gC hC;cases hB.c;rw[hD] at hM hR gC hC;rcases j0b q6 with⟨e,q7,rfl⟩|⟨y9,ld,q7,q8⟩
 ·unfold j6Z at q7;cases hr:j0C q 4 with
  |true=>
   rw[hr] at q7;cases q7
  |false=>
   rw[hr] at q7 hR;cases q7;refine⟨by omega,?_⟩
   refine gR Tryz.func113 ?_;repeat'(first|refine gU ?_|refine VIdx.mk _ wA ?_|refine VIdx.mk _ qB ?_|refine gZ hA ?_|refine gW hf ?_|refine gW hw ?_|refine gW hg ?_|refine gX hM ?_|refine gX hR ?_|apply gK)<;>conv=>whnf
   all_goals exact gJ
 ·unfold j6Z at q7;cases hr:j0C q 4 with
  |false=>
   rw[hr] at q7;cases q7
  |true=>
   rw[hr] at q7 hR;cases q7;cases q8;refine⟨⟨jfe q,jcc hr⟩,_,hC,?_⟩;refine gR Tryz.func113 ?_;repeat'(first|refine gU ?_|refine VIdx.mk _ wA ?_|refine VIdx.mk _ qB ?_|refine gZ hA ?_|refine gW hf ?_|refine gW hw ?_|refine gW hg ?_|refine gX hM ?_|refine gX hR ?_|refine gX gC ?_|apply gK)<;>conv=>whnf
   all_goals exact gJ
def jqA(hE:NvP E (.cp cs))(ht:tot≤1048576)(hI:jcD cs tot I)(fI:∀c t,Fine (I c t))(ctx:List Tm)(cv:PV)(hc:CtxP ctx cv)(t:Tm)(v:PV)(h:TmP t v)(hs:shT t=true)(hk:t.kind=7)(l:Int)(r:Except Int Tm)(l':Int)(h0:0≤l)(h1:l≤tot)(hx:jt9 E n I ctx t l=some (r,l')):IrT 114 [xI,cv,v] cs tot l r l':=by
 have hD:=hc;obtain⟨b,z,xs,rfl,-⟩:=hD;obtain⟨n1,s1,b1,z1,x1,c1,y1,ys1,rfl,qA,hA⟩:=kids h hs;obtain⟨a0,hB,p0,i0⟩:=hA 0 (by rw[hk];decide)
 obtain⟨a1,gB,p1,i1⟩:=hA 1 (by rw[hk];decide)
 obtain⟨a2,hC,p2,i2⟩:=hA 2 (by rw[hk];decide)
 have p0':=p0;have p1':=p1;have p2':=p2;cases p0'.c;cases p1'.c;cases p2'.c;unfold jt9 at hx;rcases j0b hx with⟨e,q1,rfl⟩|⟨lv,la,q1,q2⟩
 ·obtain⟨he,hf⟩:=j4Z hE ht hI fI ctx _ hc _ _ p0 i0 l _ l' h0 h1 q1;refine⟨he,?_⟩;refine gR Tryz.func114 ?_;repeat'(first|refine gU ?_|refine VIdx.mk _ hB ?_|refine gZ qA ?_|refine gW hf ?_)<;>conv=>whnf
  all_goals exact gJ
 obtain⟨wy,wB,hf⟩:=j4Z hE ht hI fI ctx _ hc _ _ p0 i0 l _ la h0 h1 q1;have wD:=(j2e (E:=E) (n:=n) fI ctx (t.arg 0)).dn l _ la h0 q1;cases wB.c;rcases j0b q2 with⟨e,q3,rfl⟩|⟨u0,lb,q3,q4⟩
 ·obtain⟨he,wA⟩:=j7q hE ht hI fI ctx _ hc _ _ p1 i1 _ _ p0 la _ l' (by omega) (by omega) q3
  refine⟨he,?_⟩;refine gR Tryz.func114 ?_;repeat'(first|refine gU ?_|refine VIdx.mk _ hB ?_|refine VIdx.mk _ gB ?_|refine gZ qA ?_|refine gW hf ?_|refine gW wA ?_|apply gK)<;>conv=>whnf
  all_goals exact gJ
 have wA:Fr _ _ _ _ _ (.ret [iv 0]) lb:=j7q hE ht hI fI ctx _ hc _ _ p1 i1 _ _ p0 la _ lb (by omega) (by omega) q3
 have gD:=(j4U (E:=E) (n:=n) fI ctx (t.arg 1) (t.arg 0)).dn la _ lb (by omega) q3
 have hN:=j7k _ _ p2 [t.arg 1] true 5 _ (.inl rfl) ⟨_,[],rfl,p1,rfl⟩ (by simp)
 have gA:TmW ((InstF (t.arg 2) [t.arg 1]).getD tz):=j7M fun x hx=>j9n (by simpa using p1.w) p2.w hx
 rw[j5W] at hN;have gC:∀x,InstF (t.arg 2) [t.arg 1]=some x→shT x=true:=fun x hx=>j7j hx
 generalize InstF (t.arg 2) [t.arg 1]=o at *;unfold TmW at gA;obtain⟨k9,n9,s9,b9,z9,x9,c9,y9,ys9,wC⟩:=j06 (o.getD tz);rw[wC] at hN gA;rcases j0b q4 with⟨e,q5,rfl⟩|⟨y,lc,q5,q6⟩
 ·obtain⟨rfl,rfl,qB⟩:=j8K o _ gA q5;refine⟨by omega,?_⟩
  refine gR Tryz.func114 ?_;repeat'(first|refine gU ?_|refine VIdx.mk _ hB ?_|refine VIdx.mk _ gB ?_|refine VIdx.mk _ hC ?_|refine gZ qA ?_|refine gW hf ?_|refine gW wA ?_|refine j01 hN fun _=>?_|refine j01 qB fun _=>?_|apply gK)<;>conv=>whnf
  all_goals exact gJ
 ·obtain⟨rfl,rfl,qD,qB⟩:=j8K o _ gA q5;have wB:TmP y (.ag [iv k9,iv n9,sv s9,.sl b9 z9 x9,.sl c9 y9 ys9]):=gA;have hg:=hI ctx _ hc _ _ wB (gC _ rfl) lc r l' (by omega) (by omega) q6
  cases r with
  |error e=>
   obtain⟨he,hg⟩:=hg;refine⟨he,?_⟩;refine gR Tryz.func114 ?_;repeat'(first|refine gU ?_|refine VIdx.mk _ hB ?_|refine VIdx.mk _ gB ?_|refine VIdx.mk _ hC ?_|refine gZ qA ?_|refine gW hf ?_|refine gW wA ?_|refine j01 hN fun _=>?_|refine j01 qB fun _=>?_|refine gW hg ?_|apply gK)<;>conv=>whnf
   all_goals exact gJ
  |ok x=>
   obtain⟨g1,wx,qC,hg⟩:=hg;refine⟨g1,_,qC,?_⟩;cases qC.c;refine gR Tryz.func114 ?_;repeat'(first|refine gU ?_|refine VIdx.mk _ hB ?_|refine VIdx.mk _ gB ?_|refine VIdx.mk _ hC ?_|refine gZ qA ?_|refine gW hf ?_|refine gW wA ?_|refine j01 hN fun _=>?_|refine j01 qB fun _=>?_|refine gW hg ?_|apply gK)<;>conv=>whnf
   all_goals exact gJ
def IrT.via{f g:FuncId}{args args' cs:List PV}{tot l l0:Int}{r:Except Int Tm}{l':Int}(h:IrT f args cs tot l r l')(ho:∀(k9 n9:Int) (s9:List UInt8) (b9:Bool) (z9:Nat) (x9:List PV) (c9:Bool) (y9:Nat) (ys9:List PV) (e:Int),Fr f args cs tot l (.ret [.ag [iv k9,iv n9,sv s9,.sl b9 z9 x9,.sl c9 y9 ys9],iv e]) l'→Fr g args' cs tot l0 (.ret [.ag [iv k9,iv n9,sv s9,.sl b9 z9 x9,.sl c9 y9 ys9],iv e]) l'):IrT g args' cs tot l0 r l':=by
 cases r with
 |error e=>
  obtain⟨he,hg⟩:=h;exact⟨he,ho _ _ _ _ _ _ _ _ _ _ hg⟩
 |ok x=>
  obtain⟨g1,wx,qA,hg⟩:=h;have hA:=qA;cases hA.c;exact⟨g1,_,qA,ho _ _ _ _ _ _ _ _ _ _ hg⟩
def jlx(hE:NvP E (.cp cs))(ht:tot≤1048576)(hI:jcD cs tot I)(fI:∀c t,Fine (I c t)):jcD cs tot (jjO E n I):=by
 intro ctx cv hc t v h hs l r l' h0 h1 hx;have qA:=hc;obtain⟨b,z,xs,rfl,hz,hA,gA,-⟩:=qA;have h':=h;have hr:=j5E cs tot l;obtain⟨k1,n1,s1,l1,t1,b1,z1,x1,c1,y1,ys1,et,rfl,-⟩:=h'.open;have ek:t.kind=k1:=by subst et;rfl
 clear et;unfold jjO at hx;rcases j0b hx with⟨e,q1,rfl⟩|⟨u0,la,q1,q2⟩
 ·rcases j1l q1 with⟨a1,a2,a3⟩|⟨a1,a2,a3⟩
  ·cases a3
  cases a3;subst a2;have hk:=jfm cs tot l' a1;refine⟨by omega,?_⟩
  refine gR Tryz.func68 ?_;repeat'(first|refine gU ?_|refine gW hr ?_|refine gW hk ?_)<;>conv=>whnf
  all_goals exact gJ
 rcases j1l q1 with⟨a1,a2,a3⟩|⟨a1,a2,a3⟩
 rotate_left
 ·cases a3
 subst a2;have hk:=jfn cs tot l a1 h1 ht;unfold jai at q2;rw[ek] at q2;split at q2
 ·have hg:=jqw hE ht hI fI ctx _ hc t _ h hs (by omega) (l-1) r l' (by omega) (by omega) q2
  refine IrT.via hg fun k9 n9 s9 b9 z9 x9 c9 y9 ys9 e hg=>?_
  refine gR Tryz.func68 ?_;repeat'(first|refine gU ?_|refine gW hr ?_|refine gW hk ?_|refine gW hg ?_)<;>conv=>whnf
  all_goals exact gJ
 split at q2
 ·have hg:=jqz hE ht hI fI ctx _ hc t _ h hs (by omega) (l-1) r l' (by omega) (by omega) q2
  refine IrT.via hg fun k9 n9 s9 b9 z9 x9 c9 y9 ys9 e hg=>?_
  refine gR Tryz.func68 ?_;repeat'(first|refine gU ?_|refine gW hr ?_|refine gW hk ?_|refine gW hg ?_)<;>conv=>whnf
  all_goals exact gJ
 split at q2
 ·have hg:=jtd hE ht hI fI ctx _ hc t _ h hs (by omega) (l-1) r l' (by omega) (by omega) q2
  refine IrT.via hg fun k9 n9 s9 b9 z9 x9 c9 y9 ys9 e hg=>?_
  refine gR Tryz.func68 ?_;repeat'(first|refine gU ?_|refine gW hr ?_|refine gW hk ?_|refine gW hg ?_)<;>conv=>whnf
  all_goals exact gJ
 split at q2
 ·have hg:=jqA hE ht hI fI ctx _ hc t _ h hs (by omega) (l-1) r l' (by omega) (by omega) q2
  refine IrT.via hg fun k9 n9 s9 b9 z9 x9 c9 y9 ys9 e hg=>?_
  refine gR Tryz.func68 ?_;repeat'(first|refine gU ?_|refine gW hr ?_|refine gW hk ?_|refine gW hg ?_)<;>conv=>whnf
  all_goals exact gJ
 ·have hg:IrT 44 [.ci [.bp 0 0],.sl b z xs,.ag [iv k1,iv n1,sv s1,.sl b1 z1 x1,.sl c1 y1 ys1]] cs tot (l-1) r l':=by
   obtain⟨g1,g2⟩:=jnj E cs hE tot ht n ctx b z xs hz hA (by omega) t _ h (l-1) r l' (by omega) (by omega) q2
   cases r with
   |error e=>exact⟨fun e0=>by
     subst e0;exact(jdj (E:=E) (n:=n) ctx t).nz _ _ q2,g2⟩
   |ok x=>exact⟨⟨(g1 x rfl).1,(g1 x rfl).2.1⟩,_,(g1 x rfl).2.2,g2⟩
  refine IrT.via hg fun k9 n9 s9 b9 z9 x9 c9 y9 ys9 e hg=>?_
  refine gR Tryz.func68 ?_;repeat'(first|refine gU ?_|refine gW hr ?_|refine gW hk ?_|refine gW hg ?_|apply gK)<;>conv=>whnf
  all_goals exact gJ
def I_ok(hE:NvP E (.cp cs))(ht:tot≤1048576):∀n,jcD cs tot (j1P E n)
 |0=>fun _ _ _ _ _ _ _ _ _ _ _ _ h=>by cases h
 |n+1=>jlx (n:=n) hE ht (I_ok hE ht n) (j0W n)
end
open Go Go.Am Go.Gw
def jvb{x:Operand}:j0i C1.P .eql 22 x y (.sl true 0 []) (.sl true 0 [])=some (bv true):=by kernel_rfl
def jvc{x:Operand}{b:Bool}{z:Nat}{c:PV}{cs:List PV}:j0i C1.P .eql 22 x y (.sl b z (c::cs)) (.sl true 0 [])=some (bv false):=by kernel_rfl
def CtxN(ctx:List Tm)(v:PV):Prop:=∃b z xs,v=.sl b z xs∧((z=5∧¬xs=[])∨(xs=[]∧b=true∧z=0))∧TmsP ctx xs∧ctx.length≤1759218604441
def jkZ(xs:List PV)(b:Bool)(z:Nat)(hz:(z=5∧¬xs=[])∨(xs=[]∧b=true∧z=0))(hA:xs.all (pur 6)=true)(hl:xs.length≤64):∃b':Bool,(xs=[]→b'=true)∧Pf C1 69 [.sl b z xs] [.sl b' z xs]:=by
 cases xs with
 |nil=>
  obtain⟨rfl,rfl⟩:b=true∧z=0:=by
   rcases hz with⟨-,h⟩|h
   ·exact absurd rfl h
   ·exact h.2
  refine⟨true,fun _=>rfl,?_⟩
  refine gR Tryz.func69 ?_;repeat'(first|refine gU ?_|refine VRes.mk _ jvb ?_)<;>conv=>whnf
  all_goals rfl
 |cons s r=>
  obtain rfl:z=5:=by
   rcases hz with h|h
   ·exact h.1
   ·exact absurd h.1 (by simp)
  refine⟨false,fun e=>(by cases e),?_⟩
  refine gR Tryz.func69 ?_;repeat'(first|refine gU ?_|refine VRes.mk _ jvc ?_|refine VOk.mk (j8G (w:=80) (r:=140737488355328) rfl rfl (by simp at hl⊢;omega) (by simp at hl⊢;omega)) ?_)<;>conv=>whnf
  exact j0m rfl (j03 (j0p rfl (by simp) hA) j0h) rfl rfl
def jdl(ctx:List Tm)(t:Tm):j1G ctx [t]=(j1G ctx []&&j0s t 4 ctx.length):=by
 unfold j1G;simp[Bool.and_assoc]
def IxT(f:FuncId)(args cs:List PV)(tot l:Int)(r:Except Int Tm)(l':Int):Prop:=(∀x,r=.ok x→shT x=true∧sizT x≤2000∧TmW x)∧(∀e,r=.error e→¬e=0)∧Fr f args cs tot l (.ret (errV r)) l'
def IxL(f:FuncId)(args cs:List PV)(tot l:Int)(r:Except Int Lv)(l':Int):Prop:=(∀x,r=.ok x→LvP x (encL x))∧(∀e,r=.error e→¬e=0)∧Fr f args cs tot l (.ret (errL r)) l'
section
variable{E:Nv}{cs:List PV}{tot:Int}{n:Nat}
def j8j(hE:NvP E (.cp cs))(ht:tot≤1048576)(ctx:List Tm)(cv:PV)(hc:CtxN ctx cv)(t:Tm)(v:PV)(h:TmP t v)(l:Int)(r:Except Int Tm)(l':Int)(h0:0≤l)(h1:l≤tot)(hx:j6E E n ctx t l=some (r,l')):IxT 19 [xI,cv,v] cs tot l r l':=by
 obtain⟨b,z,xs,rfl,hz,qA,kE⟩:=hc;have hlen:=qA.len;have hA:=jih ctx b z xs (hz.imp (·.1) (·.1)) qA
 have gA:=jdu t v h b z xs ctx.length hlen;have hv:=h;cases h.c;unfold j6E at hx;rw[jdl] at hx;rcases j0b hx with⟨e,q1,rfl⟩|⟨u0,la,q1,q2⟩
 ·obtain⟨rfl,d2⟩:=j1k q1;rcases d2 with⟨-,d2⟩|⟨d1,d2⟩
  ·cases d2
  cases d2;refine⟨fun x hx=>(by cases hx),fun e he=>(by cases he;omega),?_⟩
  cases hf:j1G ctx [] with
  |false=>
   rw[hf] at hA;refine gR Tryz.func19 ?_;repeat'(first|refine gU ?_|refine gX hA ?_)<;>conv=>whnf
   all_goals exact gJ
  |true=>
   rw[hf] at hA d1;have d1:j0s t 4 ctx.length=false:=d1;rw[d1] at gA;refine gR Tryz.func19 ?_;repeat'(first|refine gU ?_|refine gX hA ?_|refine gX gA ?_)<;>conv=>whnf
   all_goals exact gJ
 obtain⟨rfl,d2⟩:=j1k q1;rcases d2 with⟨d1,-⟩|⟨-,d2⟩
 rotate_left
 ·cases d2
 have hC:j1G ctx [t]=true:=by rw[jdl];exact d1
 obtain⟨wC,wB⟩:=j5O hC (hz.imp (·.1) id) qA
 have hB:=wC;obtain⟨b3,z3,xs3,e3,wD,gB,gD,wA⟩:=hB;obtain⟨b2,qD,qB⟩:=jkZ xs b z hz qA.pure6 (by omega)
 have hD:CtxP ctx (.sl b2 z xs):=⟨_,_,_,rfl,hz.imp (·.1) (fun q=>⟨q.1,qD q.1,q.2.2⟩),qA,gD,wA⟩
 rw[AB] at d1;rw[d1.1] at hA;rw[d1.2] at gA;have hg:=I_ok hE ht n ctx _ hD t _ hv (wB t (BD.2 rfl)).1 la r l' h0 h1 q2;cases r with
 |error e=>
  obtain⟨he,hg⟩:=hg;have ha:Pf C1 70 [.ag zTm,.sl true 0 []] [.ag zTm]:=j6p tz _ j7c true 0;refine⟨fun x hx=>(by cases hx),fun e gC=>(by cases gC;exact he),?_⟩
  refine gR Tryz.func19 ?_;repeat'(first|refine gU ?_|refine gX hA ?_|refine gX gA ?_|refine j01 qB fun _=>?_|refine gW hg ?_|refine gX ha ?_|apply gK)<;>conv=>whnf
  all_goals exact gJ
 |ok x=>
  obtain⟨g1,w,hw,hg⟩:=hg;have ha:=j6p x w hw true 0;refine⟨fun y hy=>(by cases hy;exact⟨g1.1,g1.2,hw.w⟩),fun e he=>(by cases he),?_⟩
  simp only[errV];obtain⟨k9,n9,s9,b9,z9,x9,c9,y9,ys9,qC⟩:=j06 x;rw[qC] at ha⊢;cases hw.c;refine gR Tryz.func19 ?_;repeat'(first|refine gU ?_|refine gX hA ?_|refine gX gA ?_|refine j01 qB fun _=>?_|refine gW hg ?_|refine gX ha ?_|apply gK)<;>conv=>whnf
  all_goals exact gJ
def jgx(ctx:List Tm)(t:Tm):Fine (j6E E n ctx t):=j08 (j0y (by omega)) fun _=>j0W n ctx t
def jv8:LvP (.mk 0 0 []) (.ag zLv):=⟨true,0,[],rfl,.inr rfl,rfl,by simp⟩
def j8I(hE:NvP E (.cp cs))(ht:tot≤1048576)(ctx:List Tm)(cv:PV)(hc:CtxN ctx cv)(t:Tm)(v:PV)(h:TmP t v)(l:Int)(r:Except Int Lv)(l':Int)(h0:0≤l)(h1:l≤tot)(hx:jgy E n ctx t l=some (r,l')):IxL 62 [xI,cv,v] cs tot l r l':=by
 have wA:=hc;obtain⟨b,z,xs,rfl,-⟩:=wA;have h':=h;cases h'.c;have hm:Pf C1 97 [.sl true 3 [.ag zLv]] [.ag zLv]:=j8R _ _ jv8 true 3 rfl;rcases j0b hx with⟨e,q1,rfl⟩|⟨x,la,q1,q2⟩
 ·obtain⟨-,he,hf⟩:=j8j hE ht ctx _ hc t _ h l _ l' h0 h1 q1;have he:=he _ rfl;simp only[errV] at hf;have hl:=j9L cs tot l' 0 0 [] true 0 [] true 0 [] e he;refine⟨fun x hx=>(by cases hx),fun e qA=>(by cases qA;exact he),?_⟩
  simp only[errL];refine gR Tryz.func62 ?_;repeat'(first|refine gU ?_|refine gW hf ?_|refine gW hl ?_|refine gX hm ?_)<;>conv=>whnf
  all_goals exact gJ
 ·obtain⟨hw,-,hf⟩:=j8j hE ht ctx _ hc t _ h l _ la h0 h1 q1;obtain⟨-,-,hw⟩:=hw x rfl;simp only[errV] at hf;unfold TmW at hw;generalize encT x=w at *;have hB:=(jgx (E:=E) (n:=n) ctx t).dn l _ la h0 q1;have hl:=j5R E cs hE tot ht n x w hw la r l' (by omega) (by omega) q2
  cases hw.c;cases r with
  |error e=>
   obtain⟨he,hl⟩:=hl;refine⟨fun x hx=>(by cases hx),fun e qA=>(by cases qA;exact he),?_⟩
   simp only[errL];refine gR Tryz.func62 ?_;repeat'(first|refine gU ?_|refine gW hf ?_|refine gW hl ?_|refine gX hm ?_)<;>conv=>whnf
   all_goals exact gJ
  |ok y=>
   obtain⟨wy,hA,hl⟩:=hl;have hm:=j8R y _ hA true 3 rfl;refine⟨fun y hy=>(by cases hy;exact jeo _ _ hA),fun e he=>(by cases he),?_⟩
   simp only[errL];obtain⟨k9,n9,b9,z9,x9,gA⟩:=j0t y;rw[gA] at hm⊢;cases hA.c;refine gR Tryz.func62 ?_;repeat'(first|refine gU ?_|refine gW hf ?_|refine gW hl ?_|refine gX hm ?_)<;>conv=>whnf
   all_goals exact gJ
def jdo(hE:NvP E (.cp cs))(ht:tot≤1048576)(ctx:List Tm)(cv:PV)(hc:CtxN ctx cv)(t:Tm)(v:PV)(h:TmP t v)(u:Tm)(uv:PV)(hu:TmP u uv)(l:Int)(r:Except Int Unit)(l':Int)(h0:0≤l)(h1:l≤tot)(hx:jbA E n ctx t u l=some (r,l')):IrU 63 [xI,cv,v,uv] cs tot l r l':=by
 have hB:=hc;obtain⟨b,z,xs,rfl,hz,hA,qA⟩:=hB;have h':=h;have wA:=hu;cases h'.c;cases wA.c;rcases j0b hx with⟨e,q1,rfl⟩|⟨a,la,q1,q2⟩
 ·obtain⟨-,he,hf⟩:=j8j hE ht ctx _ hc t _ h l _ l' h0 h1 q1;have he:=he _ rfl;simp only[errV] at hf;refine⟨he,?_⟩;refine gR Tryz.func63 ?_;repeat'(first|refine gU ?_|refine gW hf ?_)<;>conv=>whnf
  all_goals exact gJ
 obtain⟨hw,-,hf⟩:=j8j hE ht ctx _ hc t _ h l _ la h0 h1 q1;obtain⟨-,-,hw⟩:=hw a rfl;simp only[errV] at hf;unfold TmW at hw;have qB:=(jgx (E:=E) (n:=n) ctx t).dn l _ la h0 q1;generalize encT a=w at *;have gA:=hw;cases gA.c;rcases j0b q2 with⟨e,q3,rfl⟩|⟨ok,lb,q3,q4⟩
 ·have he:¬e=0:=fun e0=>by
   subst e0;exact(j3W (E:=E) (n:=n) ctx a u).nz _ _ q3
  have hg:=j8w E cs hE tot ht n ctx b z xs (hz.imp (·.1) id) hA qA a _ hw u _ hu la _ l' (by omega) (by omega) q3
  simp only[errB] at hg;refine⟨he,?_⟩;refine gR Tryz.func63 ?_;repeat'(first|refine gU ?_|refine gW hf ?_|refine gW hg ?_|apply gK)<;>conv=>whnf
  all_goals exact gJ
 have hg:=j8w E cs hE tot ht n ctx b z xs (hz.imp (·.1) id) hA qA a _ hw u _ hu la _ lb (by omega) (by omega) q3
 simp only[errB] at hg;cases ok with
 |true=>
  cases q4;show Fr _ _ _ _ _ (.ret [iv 0]) _
  refine gR Tryz.func63 ?_;repeat'(first|refine gU ?_|refine gW hf ?_|refine gW hg ?_|apply gK)<;>conv=>whnf
  all_goals exact gJ
 |false=>
  cases q4;refine⟨by omega,?_⟩
  refine gR Tryz.func63 ?_;repeat'(first|refine gU ?_|refine gW hf ?_|refine gW hg ?_|apply gK)<;>conv=>whnf
  all_goals exact gJ
end

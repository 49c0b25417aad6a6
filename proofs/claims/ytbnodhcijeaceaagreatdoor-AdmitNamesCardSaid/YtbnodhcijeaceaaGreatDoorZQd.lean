/- Sorted maps: what stands in one with a name more. Plain law, no program in sight. -/
import Derived.Test.YtbnodhcijeaceaaGreatDoorZQm
set_option linter.all false
set_option maxHeartbeats 4000000
set_option maxRecDepth 100000
namespace Go.Proofs.YtbnodhcijeaceaaGreatDoor
open Go Go.Am Go.Gw
theorem jmv:∀s:List UInt8,Op.bytesLess s s=false
 |[]=>rfl
 |a::r=>by simp[Op.bytesLess,jmv r]
theorem ja9:∀{a b c:List UInt8},Op.bytesLess a b=true→Op.bytesLess b c=true→Op.bytesLess a c=true
 |[],[],_,h,_=>by simp[Op.bytesLess] at h
 |_::_,[],_,h,_=>by simp[Op.bytesLess] at h
 |_,_::_,[],_,h=>by simp[Op.bytesLess] at h
 |[],_::_,_::_,_,_=>rfl
 |x::a,y::b,z::c,h1,h2=>by
  have ih:=@ja9 a b c;simp only[Op.bytesLess] at h1 h2 ⊢
  grind
theorem jre:∀{a b:List UInt8},Op.bytesLess a b=false→a=b∨Op.bytesLess b a=true
 |[],[],_=>.inl rfl
 |[],_::_,h=>by simp[Op.bytesLess] at h
 |_::_,[],_=>.inr rfl
 |x::a,y::b,h=>by
  have ih:=@jre a b;simp only[Op.bytesLess] at h ⊢
  grind
theorem jrY{a b:List UInt8}(h:Op.bytesLess a b=true):Op.bytesLess b a=false:=by
 cases e:Op.bytesLess b a with
 |false=>rfl
 |true=>have:=ja9 h e;rw[jmv] at this;cases this
def Tr.In(x:List UInt8)(i:Int):Tr→Prop
 | .nil=>False
 | .nd s n l r _ _=>(x=s∧i=n)∨l.In x i∨r.In x i
def Tr.bst:Tr→Prop
 | .nil=>True
 | .nd s _ l r _ _=>l.bst∧r.bst∧(∀x i,l.In x i→Op.bytesLess x s=true)∧∀x i,r.In x i→Op.bytesLess s x=true
def Tr.ex:Tr→Prop
 | .nil=>True
 | .nd _ _ l r d q=>l.ex∧r.ex∧d=(if r.deep>l.deep then r.deep else l.deep)+1∧q=l.count+r.count+1
variable{d i n q:Int}{s x:List UInt8}{l r t:Tr}
theorem joU(t:Tr):(j3o t).In x i↔t.In x i:=by
 unfold j3o;split
 ·simp only[j0b,Tr.In];grind
 ·rfl
theorem joS(t:Tr):(j3n t).In x i↔t.In x i:=by
 unfold j3n;split
 ·simp only[j0b,Tr.In];grind
 ·rfl
theorem jlN(h:t.bst):(j3o t).bst:=by
 unfold j3o;split
 ·simp only[j0b,Tr.bst,Tr.In] at h⊢;obtain⟨⟨h1,h2,h3,h4⟩,h5,h6,h7⟩:=h;have hs:=h6 _ _ (.inl ⟨rfl,rfl⟩);refine⟨h1,⟨h2,h5,fun x i hx=>h6 x i (.inr (.inr hx)),h7⟩,h3,?_⟩
  rintro x i (⟨rfl,rfl⟩|hx|hx)
  ·exact hs
  ·exact h4 x i hx
  ·exact ja9 hs (h7 x i hx)
 ·exact h
theorem jlM(h:t.bst):(j3n t).bst:=by
 unfold j3n;split
 ·simp only[j0b,Tr.bst,Tr.In] at h⊢;obtain⟨h1,⟨h2,h3,h4,h5⟩,h6,h7⟩:=h;have hs:=h7 _ _ (.inl ⟨rfl,rfl⟩);refine⟨⟨h1,h2,h6,fun x i hx=>h7 x i (.inr (.inl hx))⟩,h3,?_,h5⟩
  rintro x i (⟨rfl,rfl⟩|hx|hx)
  ·exact hs
  ·exact ja9 (h6 x i hx) hs
  ·exact h4 x i hx
 ·exact h
theorem joT(h:t.ex):(j3o t).ex∧(j3o t).count=t.count:=by
 unfold j3o;split
 ·simp only[j0b,Tr.ex,Tr.count] at h⊢;obtain⟨⟨h1,h2,h3,h4⟩,h5,h6,h7⟩:=h;exact⟨by simp[h1,h2,h5,Tr.deep],by omega⟩
 ·exact⟨h,rfl⟩
theorem joR(h:t.ex):(j3n t).ex∧(j3n t).count=t.count:=by
 unfold j3n;split
 ·simp only[j0b,Tr.ex,Tr.count] at h⊢;obtain⟨h1,⟨h2,h3,h4,h5⟩,h6,h7⟩:=h;exact⟨by simp[h1,h2,h3,Tr.deep],by omega⟩
 ·exact⟨h,rfl⟩
structure Tr.As (t u:Tr):Prop where
 i:∀x i,u.In x i↔t.In x i
 b:t.bst→u.bst
 e:t.ex→u.ex∧u.count=t.count
theorem as_R(t:Tr):t.As (j3o t):=⟨fun _ _=>joU t,jlN,joT⟩
theorem as_L(t:Tr):t.As (j3n t):=⟨fun _ _=>joS t,jlM,joR⟩
theorem Tr.As.refl(t:Tr):t.As t:=⟨fun _ _=>Iff.rfl,id,fun h=>⟨h,rfl⟩⟩
theorem Tr.As.trans{u v:Tr}(h:t.As u)(k:u.As v):t.As v:=⟨fun x i=>(k.i x i).trans (h.i x i),fun b=>k.b (h.b b),fun e=>⟨(k.e (h.e e).1).1,(k.e (h.e e).1).2.trans (h.e e).2⟩⟩
theorem jmo{l2 r2:Tr}(h:l.As l2)(k:r.As r2):(Tr.nd s n l r d q).As (j0b s n l2 r2):=by
 refine⟨fun x i=>?_,fun b=>?_,fun e=>?_⟩
 ·simp only[j0b,Tr.In,h.i,k.i]
 ·obtain⟨b1,b2,b3,b4⟩:=b;exact⟨h.b b1,k.b b2,fun x i hx=>b3 x i ((h.i x i).1 hx),fun x i hx=>b4 x i ((k.i x i).1 hx)⟩
 ·obtain⟨b1,b2,b3,b4⟩:=e;have e1:=(h.e b1).2;have e2:=(k.e b2).2;refine⟨⟨(h.e b1).1,(k.e b2).1,rfl,rfl⟩,?_⟩;show l2.count+r2.count+1=q
  omega
theorem j5V(t:Tr):t.As (jcm t):=by
 cases t with
 |nil=>exact Tr.As.refl _
 |nd s n l r d q=>
  rw[jcm];split
  ·refine Tr.As.trans ?_ (as_R _);split
   ·exact jmo (as_L l) (Tr.As.refl r)
   ·exact Tr.As.refl _
  split
  ·refine Tr.As.trans ?_ (as_L _);split
   ·exact jmo (Tr.As.refl l) (as_R r)
   ·exact Tr.As.refl _
  ·exact Tr.As.refl _
theorem jnk{s1:List UInt8}:getR s (.nd s1 n l r d q)=if s1=s then some n else if Op.bytesLess s s1=true then getR s l else getR s r:=by
 unfold getR;rw[ja3]
 by_cases e:s1=s
 ·rw[if_pos e,if_pos e]
 ·rw[if_neg e,if_neg e]
  by_cases k:Op.bytesLess s s1=true
  ·rw[if_pos k,if_pos k]
  ·rw[if_neg k,if_neg k]
theorem jhK{s:List UInt8}{i:Int}:∀{t:Tr},getR s t=some i→t.In s i
 | .nil,h=>by cases h
 | .nd s1 n l r d q,h=>by
  rw[jnk] at h;split at h
  ·rename_i e;cases h;exact .inl ⟨e.symm,rfl⟩
  split at h
  ·exact .inr (.inl (jhK h))
  ·exact .inr (.inr (jhK h))
theorem jei{s:List UInt8}{i:Int}:∀{t:Tr},t.bst→t.In s i→getR s t=some i
 | .nil,_,h=>h.elim
 | .nd s1 n l r d q,⟨b1,b2,b3,b4⟩,h=>by
  rw[jnk];have i1:=jmv s;have i2:=@jrY s s1;have k1:=@jei s i l b1;have k2:=@jei s i r b2;have k3:=b3 s i;have k4:=b4 s i;simp only[Tr.In] at h
  grind
theorem jbD{s:List UInt8}{n:Int}{x:List UInt8}{i:Int}:∀{t:Tr},(putR s n t).In x i→(x=s∧i=n)∨t.In x i
 | .nil,h=>by
  simp only[putR,j0b,Tr.In] at h
  grind
 | .nd s1 n1 l r d q,h=>by
  rw[putR] at h;split at h
  ·rw[(j5V _).i] at h;rcases h with h|h|h
   ·exact .inr (.inl h)
   ·exact(jbD h).imp id fun h=>.inr (.inl h)
   ·exact .inr (.inr (.inr h))
  split at h
  ·rw[(j5V _).i] at h;rcases h with h|h|h
   ·exact .inr (.inl h)
   ·exact .inr (.inr (.inl h))
   ·exact(jbD h).imp id fun h=>.inr (.inr h)
  ·rcases h with h|h|h
   ·exact .inl h
   ·exact .inr (.inr (.inl h))
   ·exact .inr (.inr (.inr h))
theorem jhN{s:List UInt8}{n:Int}:∀t:Tr,(putR s n t).In s n
 | .nil=>.inl ⟨rfl,rfl⟩
 | .nd s1 n1 l r d q=>by
  rw[putR];split
  ·rw[(j5V _).i];exact .inr (.inl (jhN l))
  split
  ·rw[(j5V _).i];exact .inr (.inr (jhN r))
  ·exact .inl ⟨rfl,rfl⟩
theorem jeM{s:List UInt8}{n:Int}:∀{t:Tr},t.bst→(putR s n t).bst
 | .nil,_=>⟨trivial,trivial,fun _ _ h=>h.elim,fun _ _ h=>h.elim⟩
 | .nd s1 n1 l r d q,⟨b1,b2,b3,b4⟩=>by
  rw[putR];split
  ·rename_i c;refine(j5V _).b ⟨jeM b1,b2,fun x i hx=>?_,b4⟩
   rcases jbD hx with⟨rfl,-⟩|hx
   ·exact c
   ·exact b3 x i hx
  split
  ·rename_i c1 c;refine(j5V _).b ⟨b1,jeM b2,b3,fun x i hx=>?_⟩
   rcases jbD hx with⟨rfl,-⟩|hx
   ·have c1:Op.bytesLess x s1=false:=by simpa using c1
    rcases jre c1 with e|e
    ·simp[e] at c
    ·exact e
   ·exact b4 x i hx
  ·rename_i c1 c2;have:s=s1:=by simpa[c1] using c2
   subst this;exact⟨b1,b2,b3,b4⟩
theorem Tr.ex.bd:∀{t:Tr},t.ex→0≤t.deep∧t.deep≤t.count
 | .nil,_=>⟨Int.le_refl _,Int.le_refl _⟩
 | .nd s n l r d q,⟨h1,h2,h3,h4⟩=>by
  have:=h1.bd;have:=h2.bd;simp only[Tr.deep,Tr.count];split at h3<;>omega
theorem Tr.ex.ok:∀{t:Tr}{m:Nat},t.ex→t.count≤m→t.ok m
 | .nil,_,_,_=>trivial
 | .nd s n l r d q,m,h,hm=>by
  have hb:=h.bd;obtain⟨h1,h2,h3,h4⟩:=h;have k1:=h1.bd;have k2:=h2.bd;simp only[Tr.deep,Tr.count] at hb hm;exact⟨h1.ok (by omega),h2.ok (by omega),hb.1,by omega,by omega,hm⟩
theorem jbC{s:List UInt8}{n:Int}:∀{t:Tr},t.ex→(putR s n t).ex∧t.count≤(putR s n t).count∧(putR s n t).count≤t.count+1
 | .nil,_=>by
  refine⟨⟨trivial,trivial,rfl,rfl⟩,?_,?_⟩<;>simp only[putR,j0b,Tr.count]<;>omega
 | .nd s1 n1 l r d q,⟨h1,h2,h3,h4⟩=>by
  obtain⟨l1,l2,l3⟩:=jbC (s:=s) (n:=n) h1;obtain⟨r1,r2,r3⟩:=jbC (s:=s) (n:=n) h2;rw[putR];split
  ·obtain⟨e1,e2⟩:=(j5V (j0b s1 n1 (putR s n l) r)).e ⟨l1,h2,rfl,rfl⟩;rw[e2];have:(j0b s1 n1 (putR s n l) r).count=(putR s n l).count+r.count+1:=rfl;have:(Tr.nd s1 n1 l r d q).count=q:=rfl;exact⟨e1,by omega,by omega⟩
  split
  ·obtain⟨e1,e2⟩:=(j5V (j0b s1 n1 l (putR s n r))).e ⟨h1,r1,rfl,rfl⟩;rw[e2];have:(j0b s1 n1 l (putR s n r)).count=l.count+(putR s n r).count+1:=rfl;have:(Tr.nd s1 n1 l r d q).count=q:=rfl;exact⟨e1,by omega,by omega⟩
  ·have:(j0b s n l r).count=l.count+r.count+1:=rfl;have:(Tr.nd s1 n1 l r d q).count=q:=rfl;exact⟨⟨h1,h2,rfl,rfl⟩,by omega,by omega⟩
theorem ji5{s:List UInt8}{n:Int}:∀{t:Tr},t.ex→t.count≤3000→jeL s n t
 | .nil,_,_=>trivial
 | .nd s1 n1 l r d q,⟨h1,h2,h3,h4⟩,hc=>by
  have k1:=h1.bd;have k2:=h2.bd;have p1:=jbC (s:=s) (n:=n) h1;have p2:=jbC (s:=s) (n:=n) h2;simp only[Tr.count] at hc;exact⟨h1.ok (by omega),h2.ok (by omega),p1.1.ok (by omega),p2.1.ok (by omega),ji5 h1 (by omega),ji5 h2 (by omega)⟩
open Go Go.Am Go.Gw
def htF(E:Nv)(s:List UInt8):Int:=((j0E E s).getD enz).ht
def j5u(E:Nv):List (List UInt8)→Int→Int
 |[],n=>n
 |s::r,n=>j5u E r (if htF E s>n then htF E s else n)
def j3T(E:Nv)(t:Tm):Int:=j5u E (j4W t) 0
def enOf(d:Dc)(h:Int):En:=⟨d.k,d.p,d.nm,d.ty,d.vl,h,[],0,0,0,[]⟩
def plain8(d:Dc):Bool:=j3R d && !decide (d.k=5)
def entryD(d:Dc)(h:Int):Except Int En:=match plain8 d with
 |true=>if d.k=2 then(if 1≤h∧h≤1048576 then .ok (enOf d h) else .error 12) else .ok (enOf d 0)
 |false=>.error 10
noncomputable def j2H(E:Nv)(n:Nat)(d:Dc):M Unit:=bnd (jcV E n [] d.ty) fun l=>bnd (j3h (!(decide (d.k=3) && !jc7 l)) 19) fun _=>match decide (d.k=1) with
 |true=>mok ()
 |false=>j9j E n [] d.vl d.ty
noncomputable def j1o(E:Nv)(n:Nat)(d:Dc)(tot:Int):Option (Except Int En×Int):=match plain8 d with
 |false=>some (.error 10,0)
 |true=>match getR d.nm E.tr with
  |some _=>some (.error 14,0)
  |none=>match j2H E n d tot with
   |none=>none
   |some (.error e,l)=>some (.error e,tot-l)
   |some (.ok _,l)=>some (entryD d (j3T E d.vl+1),tot-l)
section
variable{E:Nv}
theorem jcU(hE:NvOk E)(q:Int)(c:List Tm)(t:Tm):TotU (fun n=>j4q E n c t) q:=TotU.pre (fun l=>j1p _ _ l) (j0u (by omega)) fun _=>jl1 hE _ c t
theorem j5w(c:List Tm)(t:Tm):Mono fun n=>j4q E n c t:=fun _ _ h=>Le.bnd (Le.refl _) fun _=>j8l h c t
theorem j9g(n:Nat)(c:List Tm)(t:Tm):Fine (jcV E n c t):=j06 (j5p n c t) fun x=>jag x
theorem jd9(c:List Tm)(t:Tm):Mono fun n=>jcV E n c t:=fun _ _ h=>Le.bnd (j5w c t _ _ h) fun x=>jjm h x
theorem jnq(hE:NvOk E)(q:Int)(c:List Tm)(t:Tm):TotU (fun n=>jcV E n c t) q:=TotU.bnd (jcU hE q c t) (fun n=>j5p n c t) (j5w c t) (fun x=>jhU hE q x) fun x=>j8s x
theorem jhD(n:Nat)(c:List Tm)(t u:Tm):Fine (j9j E n c t u):=j06 (j5p n c t) fun a=>j06 (j3F c a u) fun ok=>j0u (by omega)
theorem jbl(c:List Tm)(t u:Tm):Mono fun n=>j9j E n c t u:=fun _ _ h=>Le.bnd (j5w c t _ _ h) fun a=>Le.bnd (jah h c a u) fun _=>Le.refl _
theorem jkZ(hE:NvOk E)(q:Int)(c:List Tm)(t u:Tm):TotU (fun n=>j9j E n c t u) q:=TotU.bnd (jcU hE q c t) (fun n=>j5p n c t) (j5w c t) (fun a=>TotU.bnd (jfB hE q c a u) (fun n=>j3F c a u) (j9o c a u) (fun ok=>j2l fun l=>j1p _ _ l) fun _=>j0V _) fun a=>fun _ _ h=>Le.bnd (jah h c a u) fun _=>Le.refl _
theorem j4B(n:Nat)(d:Dc):Fine (j2H E n d):=j06 (j9g n _ _) fun l=>j06 (j0u (by omega)) fun _=>by
 cases decide (d.k=1)
 ·exact jhD n _ _ _
 ·exact j0o _
theorem jle(d:Dc):Mono fun n=>j2H E n d:=fun _ _ h=>Le.bnd (jd9 _ _ _ _ h) fun l=>Le.bnd (Le.refl _) fun _=>by
 cases decide (d.k=1)
 ·exact jbl _ _ _ _ _ h
 ·exact Le.refl _
theorem jnK(hE:NvOk E)(q:Int)(d:Dc):TotU (fun n=>j2H E n d) q:=TotU.bnd (jnq hE q _ _) (fun n=>j9g n _ _) (jd9 _ _) (fun l=>TotU.pre (fun l=>j1p _ _ l) (j0u (by omega)) fun _=>by
  cases decide (d.k=1)
  ·exact jkZ hE q _ _ _
  ·exact j1G _) fun l=>fun _ _ h=>Le.bnd (Le.refl _) fun _=>by
   cases decide (d.k=1)
   ·exact jbl _ _ _ _ _ h
   ·exact Le.refl _
variable{d:Dc}{e:En}{h tot:Int}{n:Nat}
theorem jaV{e:Int}(x:entryD d h=.error e):¬e=0:=by
 unfold entryD at x;split at x
 ·split at x
  ·split at x<;>cases x
   omega
  ·cases x
 ·cases x;omega
theorem jaU(x:entryD d h=.ok e):∃q,e=enOf d q:=by
 unfold entryD at x;split at x
 ·split at x
  ·split at x
   ·cases x;exact⟨_,rfl⟩
   ·cases x
  ·cases x;exact⟨_,rfl⟩
 ·cases x
theorem jfV(x:entryD d h=.ok e):j1u e=true:=by
 unfold entryD at x;cases hp:plain8 d with
 |false=>rw[hp] at x;cases x
 |true=>
  rw[hp] at x;unfold plain8 j3R at hp;have hq:∀q,((d.k=2→1≤q∧q≤1048576)∧(¬d.k=2→q=0))→j1u (enOf d q)=true:=fun q hq=>by
   unfold j1u j9C j3j j9m enOf job j4f jfP;unfold j0w at *;dsimp only
   grind
  dsimp only at x;split at x
  ·split at x
   ·cases x;exact hq _ ⟨fun _=>by assumption,fun c=>absurd (by assumption) c⟩
   ·cases x
  ·cases x;exact hq _ ⟨fun c=>absurd c (by assumption),fun _=>rfl⟩
theorem jgw{m:Nat}(h:n≤m){r:Except Int En×Int}(hx:j1o E n d tot=some r):j1o E m d tot=some r:=by
 unfold j1o at hx⊢;cases h8:plain8 d with
 |false=>rw[h8] at hx;exact hx
 |true=>
  rw[h8] at hx;dsimp only at hx⊢;cases hg:getR d.nm E.tr with
  |some i=>rw[hg] at hx;exact hx
  |none=>
   rw[hg] at hx;dsimp only at hx⊢;cases hj:j2H E n d tot with
   |none=>rw[hj] at hx;cases hx
   |some y=>
    obtain⟨y,l⟩:=y;rw[show j2H E m d tot=some (y,l) from jle d _ _ h _ _ _ hj]
    rw[hj] at hx;exact hx
theorem jbv{r:Except Int En}{u:Int}(h0:0≤tot)(hx:j1o E n d tot=some (r,u)):0≤u∧u≤tot∧∀e,r=.error e→¬e=0:=by
 unfold j1o at hx;split at hx
 ·cases hx;exact⟨by omega,by omega,fun e h=>by cases h;omega⟩
 split at hx
 ·cases hx;exact⟨by omega,by omega,fun e h=>by cases h;omega⟩
 split at hx
 ·cases hx
 ·rename_i e l hj;cases hx;have hd:=(j4B n d).dn tot _ l h0 hj;exact⟨by omega,by omega,fun e' h=>by cases h;exact fun e0=>(j4B n d).nz _ _ (e0▸hj)⟩
 ·rename_i a l hj;cases hx;have hd:=(j4B n d).dn tot _ l h0 hj;exact⟨by omega,by omega,fun e h=>jaV h⟩
theorem j6T(hE:NvOk E)(d:Dc)(tot:Int)(h0:0≤tot):∃n r u,j1o E n d tot=some (r,u)∧0≤u∧u≤tot∧∀e,r=.error e→¬e=0:=by
 obtain⟨n,r,l,hx⟩:=jnK hE tot d tot h0 (Int.le_refl _);have hx:j2H E n d tot=some (r,l):=hx;have hd:=(j4B n d).dn tot _ l h0 hx;refine⟨n,?_⟩;unfold j1o;cases plain8 d with
 |false=>exact⟨_,_,rfl,by omega,by omega,fun e h=>by cases h;omega⟩
 |true=>
  dsimp only;cases getR d.nm E.tr with
  |some i=>exact⟨_,_,rfl,by omega,by omega,fun e h=>by cases h;omega⟩
  |none=>
   dsimp only;rw[hx];cases r with
   |error e=>exact⟨_,_,rfl,by omega,by omega,fun e h=>by cases h;exact fun e0=>(j4B n d).nz _ _ (e0▸hx)⟩
   |ok a=>exact⟨_,_,rfl,by omega,by omega,fun e h=>jaV h⟩
end
open Go Go.Am Go.Gw
abbrev xI:PV:=.ci [.ci [.bp 0 0]]
def IrT(f:FuncId)(args cs:List PV)(tot l:Int)(r:Except Int Tm)(l':Int):Prop:=match r with
 | .ok x=>(shT x=true∧sizT x≤2000)∧∃w,TmP x w∧Fr f args cs tot l (.ret [w,iv 0]) l'
 | .error e=>¬e=0∧Fr f args cs tot l (.ret [.ag zTm,iv e]) l'
def IrL(f:FuncId)(args cs:List PV)(tot l:Int)(r:Except Int Lv)(l':Int):Prop:=match r with
 | .ok x=>∃w,LvP x w∧Fr f args cs tot l (.ret [w,iv 0]) l'
 | .error e=>¬e=0∧Fr f args cs tot l (.ret [.ag zLv,iv e]) l'
def IrU(f:FuncId)(args cs:List PV)(tot l:Int)(r:Except Int Unit)(l':Int):Prop:=match r with
 | .ok _=>Fr f args cs tot l (.ret [iv 0]) l'
 | .error e=>¬e=0∧Fr f args cs tot l (.ret [iv e]) l'
def jc9(cs:List PV)(tot:Int)(I:List Tm→Tm→M Tm):Prop:=∀ctx cv,CtxP ctx cv→∀t v,TmP t v→shT t=true→∀l r l',0≤l→l≤tot→I ctx t l=some (r,l')→IrT 68 [xI,cv,v] cs tot l r l'
theorem kids{t:Tm}{v:PV}(h:TmP t v)(hs:shT t=true):∃n s b z xs c y ys,v=.ag [iv t.kind,iv n,sv s,.sl b z xs,.sl c y ys]∧(y=5∨ys=[])∧∀i:Nat,(i:Int)<j1f t.kind→∃a,ys[i]?=some a∧TmP (t.arg i) a∧shT (t.arg i)=true:=by
 obtain⟨k1,n1,s1,l1,t1,b1,z1,x1,c1,y1,ys1,rfl,rfl,hz1,hx1,-,-,hy1,hys1,-⟩:=h.open;obtain⟨a1,a2,a3,a4,a5,a6⟩:=j0s hs;refine⟨_,_,_,_,_,_,_,_,rfl,hy1,fun i hi=>?_⟩
 have hi':(i:Int)<j1f k1:=hi;have hg:=getD_at (ts:=t1) (i:=i) (by omega)
 obtain⟨a,ha,hp⟩:=hys1.at hg;exact⟨a,ha,hp,a5 _ (List.mem_of_getElem? hg)⟩
theorem jgf(cs:List PV)(tot l:Int):Fr 65 [.bp 0 0] cs tot l (.ret [xI]) l:=by
 have hc:=jhq cs tot l;refine j00 Tryz.func65 rfl rfl rfl ?_;repeat'(first|refine gW hc ?_)<;>conv=>whnf
 show VRet C1 _ 1 [.bp 1 0] [runB cs tot l,.box 112 [.ci [.bp 0 0]]] _
 exact j1j (.inr ⟨rfl,rfl⟩) rfl rfl rfl ⟨rfl,rfl⟩
theorem jd0(t:Tm)(v:PV)(h:TmP t v)(b:Bool)(z:Nat)(xs:List PV)(n:Nat)(hn:xs.length=n):Pf C1 67 [.sl b z xs,v] [bv (j0w t 4 n)]:=by
 have hr:=j0I t v h 4 n;subst hn;cases h.c;refine j00 Tryz.func67 rfl rfl rfl ?_;repeat'(first|refine gU ?_|refine gX hr ?_)<;>conv=>whnf
 all_goals rfl
theorem jhM(ctx:List Tm)(b:Bool)(z:Nat)(xs:List PV)(hz:z=5∨xs=[])(hxs:TmsP ctx xs):Pf C1 66 [.sl b z xs] [bv (j1A ctx [])]:=by
 have hlen:=hxs.len;have he:j1A ctx []=(decide (ctx.length≤64)&&ctxF ctx 0):=by
  unfold j1A;simp
 rw[he];refine j00 Tryz.func66 rfl rfl rfl ?_;repeat'(first|refine gU ?_|apply gE<;>intro h)<;>conv=>whnf
 ·refine j2g ?_;rw[decide_eq_false (by omega)]
  rfl
 rw[decide_eq_true (by omega:ctx.length≤64)]
 refine j03 (G:=Nat) (fun i=>[(10,iv i)]) (fun _=>_) (fun i=>i≤ctx.length∧ctxF (ctx.drop i) i=ctxF ctx 0) (fun i=>ctx.length-i) 0 ⟨by omega,rfl⟩ rfl rfl ?_
 rintro i ⟨hi,hall⟩;dsimp only at hi hall⊢;repeat'(first|refine gU ?_|apply gE<;>intro h)<;>conv=>whnf
 ·have hi':i<ctx.length:=by omega
  obtain⟨tc,htc⟩:∃tc,ctx[i]?=some tc:=⟨_,List.getElem?_eq_getElem hi'⟩;obtain⟨v,hv,hl⟩:=hxs.at htc;have hw:=jd0 tc v hl (b&&Nat.beq i xs.length) z ((xs.take i).drop 0) i (by simp;omega)
  have hle:(i.ble xs.length&&Nat.ble 0 i)=true:=by simp only[Nat.ble_eq,Bool.and_eq_true];omega
  cases hl.c;rw[jfJ htc] at hall;repeat'(first|refine gU ?_|apply gM<;>intro h|refine VIdx.mk _ hv ?_|refine gZ hz ?_|refine VOk.mk hle ?_|refine j01 hw fun _=>?_|apply gK)<;>conv=>whnf
  ·have hr:j0w tc 4 i=true:=by assumption
   rw[hr,Bool.true_and] at hall;exact VAgain.mk _ rfl _ (j0a rfl rfl rfl) ⟨i+1,⟨hi',hall⟩,by omega,rfl⟩
  ·have hr:j0w tc 4 i=false:=by assumption
   rw[hr,Bool.false_and] at hall;rw[←hall];rfl
 ·have hl:i=ctx.length:=by omega
  subst hl;rw[List.drop_length] at hall;refine j2g ?_;rw[←hall];simp[ctxF]
theorem jnE(t:Tm)(v:PV)(h:TmP t v):Pf C1 180 [v,bv false] [.ag zTm,iv 15]:=by
 cases h.c;refine j00 Tryz.func180 rfl rfl rfl ?_;repeat'(refine gU ?_)<;>conv=>whnf
 all_goals rfl
theorem jnF(t:Tm)(v:PV)(h:TmP t v)(hn:j0v t≤2000):Pf C1 180 [v,bv true] [v,iv 0]:=by
 have h1:=j1X t v h;cases h.c;refine j00 Tryz.func180 rfl rfl rfl ?_;repeat'(first|refine gU ?_|apply gE<;>intro h|refine gX h1 ?_)<;>conv=>whnf
 all_goals first|rfl|(exfalso;omega)
theorem jl3(t:Tm)(v:PV)(h:TmP t v)(hn:¬j0v t≤2000):Pf C1 180 [v,bv true] [.ag zTm,iv 15]:=by
 have h1:=j1X t v h;cases h.c;refine j00 Tryz.func180 rfl rfl rfl ?_;repeat'(first|refine gU ?_|apply gE<;>intro h|refine gX h1 ?_)<;>conv=>whnf
 all_goals first|rfl|(exfalso;omega)
theorem j8i(o:Option Tm)(wo:PV)(h:TmP (o.getD tz) wo){l l':Int}{r:Except Int Tm}(hx:j4C o l=some (r,l')):l'=l∧match r with
  | .ok x=>o=some x∧sizT x≤2000∧Pf C1 180 [wo,bv o.isSome] [wo,iv 0]
  | .error e=>e=15∧Pf C1 180 [wo,bv o.isSome] [.ag zTm,iv 15]:=by
 cases o with
 |none=>
  cases hx;exact⟨rfl,rfl,jnE _ _ h⟩
 |some x=>
  simp only[j4C,bnd,optF,mok] at hx
  by_cases hn:j0v x≤2000
  ·rw[decide_eq_true hn] at hx;cases hx;exact⟨rfl,rfl,j3i hn,jnF _ _ h hn⟩
  ·rw[decide_eq_false hn] at hx;cases hx;exact⟨rfl,rfl,jl3 _ _ h hn⟩
theorem j9l(cs:List PV)(tot l:Int)(k n:Int)(s:List UInt8)(b:Bool)(z:Nat)(xs:List PV)(c:Bool)(y:Nat)(ys:List PV)(e:Int)(he:¬e=0):Fr 108 [xI,.ag [iv k,iv n,sv s,.sl b z xs,.sl c y ys],iv e] cs tot l (.ret [.ag zLv,iv e]) l:=by
 refine j00 Tryz.func108 rfl rfl rfl ?_;repeat'(refine gU ?_)<;>conv=>whnf
 all_goals exact gJ
theorem j5v(E:Nv)(cs:List PV)(hE:NvP E (.cp cs))(tot:Int)(ht:tot≤1048576)(n:Nat)(x:Tm)(v:PV)(h:TmP x v)(l:Int)(r:Except Int Lv)(l':Int)(h0:0≤l)(h1:l≤tot)(hx:levB E n x l=some (r,l')):IrL 108 [xI,v,iv 0] cs tot l r l':=by
 have hr:=j7t cs tot l;have hv:=h;cases h.c;unfold levB at hx;rcases j09 hx with⟨e,q1,rfl⟩|⟨s,la,q1,q2⟩
 ·have he:¬e=0:=fun e0=>by
   subst e0;exact(j0B (E:=E) n x).nz _ _ q1
  obtain⟨-,hf⟩:=j7K E cs hE tot ht n x _ hv l _ l' h0 h1 q1;simp only[errV] at hf;refine⟨he,?_⟩;refine j00 Tryz.func108 rfl rfl rfl ?_;repeat'(first|refine gU ?_|refine gW hr ?_|refine gW hf ?_|apply gK)<;>conv=>whnf
  all_goals exact gJ
 obtain⟨hs,hf⟩:=j7K E cs hE tot ht n x _ hv l _ la h0 h1 q1;obtain⟨hs1,hs2,hsw⟩:=hs s rfl;simp only[errV] at hf;unfold TmW at hsw;generalize encT s=ws at *;obtain⟨k3,n3,s3,l3,t3,b3,z3,x3,c3,y3,ys3,e3,rfl,hz3,hx3,-⟩:=hsw.open;subst e3;have ek:(Tm.mk k3 n3 s3 l3 t3).kind=k3:=rfl;rw[ek] at q2
 by_cases hk3:k3=2
 ·rw[decide_eq_true hk3] at q2;cases q2;have hln:l3.length=1:=by
   have:=(j0s hs1).2.2.2.1 (by omega)
   subst hk3;have e:j0O 2=1:=rfl;omega
  obtain⟨vl,hvl,hl⟩:=hx3.at (show l3[0]?=some (l3.getD 0 (.mk 0 0 [])) by rw[List.getD_eq_getElem?_getD,List.getElem?_eq_getElem (by omega)];rfl)
  refine⟨vl,hl,?_⟩;cases hl.c;subst hk3;refine j00 Tryz.func108 rfl rfl rfl ?_;repeat'(first|refine gU ?_|refine gW hr ?_|refine gW hf ?_|refine VIdx.mk _ hvl ?_|refine gZ hz3 ?_|apply gK)<;>conv=>whnf
  all_goals exact gJ
 ·rw[decide_eq_false hk3] at q2;cases q2;refine⟨by omega,?_⟩
  refine j00 Tryz.func108 rfl rfl rfl ?_;repeat'(first|refine gU ?_|refine gW hr ?_|refine gW hf ?_|apply gK)<;>conv=>whnf
  all_goals exact gJ
open Go Go.Am Go.Gw
section
variable{E:Nv}{cs:List PV}{tot:Int}{n:Nat}{I:List Tm→Tm→M Tm}
theorem j4F(hE:NvP E (.cp cs))(ht:tot≤1048576)(hI:jc9 cs tot I)(fI:∀c t,Fine (I c t))(ctx:List Tm)(cv:PV)(hc:CtxP ctx cv)(t:Tm)(v:PV)(h:TmP t v)(hs:shT t=true)(l:Int)(r:Except Int Lv)(l':Int)(h0:0≤l)(h1:l≤tot)(hx:j7m E n I ctx t l=some (r,l')):IrL 109 [xI,cv,v] cs tot l r l':=by
 have hc':=hc;obtain⟨b,z,xs,rfl,-⟩:=hc';have h':=h;cases h'.c;rcases j09 hx with⟨e,q1,rfl⟩|⟨x,la,q1,q2⟩
 ·obtain⟨he,hf⟩:=hI ctx _ hc t _ h hs l _ l' h0 h1 q1;have hl:=j9l cs tot l' 0 0 [] true 0 [] true 0 [] e he;refine⟨he,?_⟩;refine j00 Tryz.func109 rfl rfl rfl ?_;repeat'(first|refine gU ?_|refine gW hf ?_|refine gW hl ?_)<;>conv=>whnf
  all_goals exact gJ
 ·obtain⟨-,w,hw,hf⟩:=hI ctx _ hc t _ h hs l _ la h0 h1 q1;have hla:=(fI ctx t).dn l _ la h0 q1;have hl:=j5v E cs hE tot ht n x w hw la r l' (by omega) (by omega) q2
  cases hw.c;cases r with
  |error e=>
   obtain⟨he,hl⟩:=hl;refine⟨he,?_⟩;refine j00 Tryz.func109 rfl rfl rfl ?_;repeat'(first|refine gU ?_|refine gW hf ?_|refine gW hl ?_)<;>conv=>whnf
   all_goals exact gJ
  |ok y=>
   obtain⟨wy,hwy,hl⟩:=hl;refine⟨wy,hwy,?_⟩;cases hwy.c;refine j00 Tryz.func109 rfl rfl rfl ?_;repeat'(first|refine gU ?_|refine gW hf ?_|refine gW hl ?_)<;>conv=>whnf
   all_goals exact gJ
theorem j6O(hE:NvP E (.cp cs))(ht:tot≤1048576)(hI:jc9 cs tot I)(fI:∀c t,Fine (I c t))(ctx:List Tm)(cv:PV)(hc:CtxP ctx cv)(t:Tm)(v:PV)(h:TmP t v)(hs:shT t=true)(u:Tm)(uv:PV)(hu:TmP u uv)(l:Int)(r:Except Int Unit)(l':Int)(h0:0≤l)(h1:l≤tot)(hx:j9H E n I ctx t u l=some (r,l')):IrU 179 [xI,cv,v,uv] cs tot l r l':=by
 have hc':=hc;obtain⟨b,z,xs,rfl,hz,hxs,h64,-⟩:=hc';have h':=h;have hu':=hu;cases h'.c;cases hu'.c;rcases j09 hx with⟨e,q1,rfl⟩|⟨a,la,q1,q2⟩
 ·obtain⟨he,hf⟩:=hI ctx _ hc t _ h hs l _ l' h0 h1 q1;refine⟨he,?_⟩;refine j00 Tryz.func179 rfl rfl rfl ?_;repeat'(first|refine gU ?_|refine gW hf ?_)<;>conv=>whnf
  all_goals exact gJ
 obtain⟨-,w,hw,hf⟩:=hI ctx _ hc t _ h hs l _ la h0 h1 q1;have hla:=(fI ctx t).dn l _ la h0 q1;have hw':=hw;cases hw'.c;rcases j09 q2 with⟨e,q3,rfl⟩|⟨ok,lb,q3,q4⟩
 ·have he:¬e=0:=fun e0=>by
   subst e0;exact(j3F (E:=E) (n:=n) ctx a u).nz _ _ q3
  have hg:=j7U E cs hE tot ht n ctx b z xs hz hxs (by omega) a _ hw u _ hu la _ l' (by omega) (by omega) q3
  simp only[errB] at hg;refine⟨he,?_⟩;refine j00 Tryz.func179 rfl rfl rfl ?_;repeat'(first|refine gU ?_|refine gW hf ?_|refine gW hg ?_|apply gK)<;>conv=>whnf
  all_goals exact gJ
 have hg:=j7U E cs hE tot ht n ctx b z xs hz hxs (by omega) a _ hw u _ hu la _ lb (by omega) (by omega) q3
 simp only[errB] at hg;cases ok with
 |true=>
  cases q4;show Fr _ _ _ _ _ (.ret [iv 0]) _
  refine j00 Tryz.func179 rfl rfl rfl ?_;repeat'(first|refine gU ?_|refine gW hf ?_|refine gW hg ?_|apply gK)<;>conv=>whnf
  all_goals exact gJ
 |false=>
  cases q4;refine⟨by omega,?_⟩
  refine j00 Tryz.func179 rfl rfl rfl ?_;repeat'(first|refine gU ?_|refine gW hf ?_|refine gW hg ?_|apply gK)<;>conv=>whnf
  all_goals exact gJ
theorem jrl(ctx:List Tm)(b:Bool)(z:Nat)(xs:List PV)(hz:z=5∨(xs=[]∧b=true∧z=0))(hxs:TmsP ctx xs)(hl:ctx.length<64)(k1 n1:Int)(s1:List UInt8)(b1:Bool)(z1:Nat)(x1:List PV)(c1:Bool)(y1:Nat)(ys1:List PV)(hp6:(xs++[PV.ag [iv k1,iv n1,sv s1,.sl b1 z1 x1,.sl c1 y1 ys1]]).all (pur 6)=true)(k2 n2:Int)(s2:List UInt8)(b2:Bool)(z2:Nat)(x2:List PV)(c2:Bool)(y2:Nat)(ys2:List PV)(l l':Int)(k3 n3:Int)(s3:List UInt8)(b3:Bool)(z3:Nat)(x3:List PV)(c3:Bool)(y3:Nat)(ys3:List PV)(e:Int)
  (hf:Fr 68 [xI,.sl false 5 (xs++[.ag [iv k1,iv n1,sv s1,.sl b1 z1 x1,.sl c1 y1 ys1]]),.ag [iv k2,iv n2,sv s2,.sl b2 z2 x2,.sl c2 y2 ys2]] cs tot l (.ret [.ag [iv k3,iv n3,sv s3,.sl b3 z3 x3,.sl c3 y3 ys3],iv e]) l') :
  Fr 181 [xI,.sl b z xs,.ag [iv k1,iv n1,sv s1,.sl b1 z1 x1,.sl c1 y1 ys1],.ag [iv k2,iv n2,sv s2,.sl b2 z2 x2,.sl c2 y2 ys2]] cs tot l (.ret [.ag [iv k3,iv n3,sv s3,.sl b3 z3 x3,.sl c3 y3 ys3],iv e]) l':=by
 have hlen:=hxs.len;have ho1:(xs.length.ble xs.length&&Nat.ble 0 xs.length)=true:=by simp
 have ho2:Nat.beq xs.length xs.length=true:=by simp
 generalize hX:xs++[.ag [iv k1,iv n1,sv s1,.sl b1 z1 x1,.sl c1 y1 ys1]]=X at hf hp6;have hx:(xs.take xs.length).drop 0++[.ag [iv k1,iv n1,sv s1,.sl b1 z1 x1,.sl c1 y1 ys1]]=X:=by rw[List.take_length,←hX];rfl
 have hXl:X.length=xs.length+1:=by rw[←hX];simp
 rcases hz with rfl|⟨rfl,rfl,rfl⟩
 ·refine j00 Tryz.func181 rfl rfl rfl ?_;repeat'(first|refine gU ?_|apply gE<;>intro h|refine VOk.mk ho1 ?_|refine VOk.mk ho2 ?_|refine VOk.mk (jec (w:=80) (r:=140737488355328) rfl rfl rfl (by simp;omega) (by simp;omega)) ?_|apply gK)<;>conv=>whnf
  ·exfalso;omega
  refine j8J (st1:=[runB cs tot l,.box 25 [iv k1,iv n1,sv s1,.sl b1 z1 x1,.sl c1 y1 ys1],.box 25 [iv k2,iv n2,sv s2,.sl b2 z2 x2,.sl c2 y2 ys2],.box 25 zTm,.row true 25 5 X]) (args':=[xI,.sl false 5 X,.ag [iv k2,iv n2,sv s2,.sl b2 z2 x2,.sl c2 y2 ys2]]) ?_ hf rfl rfl rfl rfl rfl rfl ?_
  ·show mapS (pubV C1 8) _ _=_
   refine j04 rfl ?_;refine j04 (j0D (b:=false) (T:=25) (z:=5) (xs:=X) ?_ ?_ hp6) ?_
   ·rw[←hx];rfl
   ·rw[hXl];simp
   ·exact j04 rfl j0m
  repeat'(refine gU ?_)<;>conv=>whnf
  all_goals exact gJ
 ·refine j00 Tryz.func181 rfl rfl rfl ?_;repeat'(first|refine gU ?_|apply gK)<;>conv=>whnf
  refine j8J (st1:=[runB cs tot l,.box 25 [iv k1,iv n1,sv s1,.sl b1 z1 x1,.sl c1 y1 ys1],.box 25 [iv k2,iv n2,sv s2,.sl b2 z2 x2,.sl c2 y2 ys2],.box 25 zTm,.row true 25 5 X]) (args':=[xI,.sl false 5 X,.ag [iv k2,iv n2,sv s2,.sl b2 z2 x2,.sl c2 y2 ys2]]) ?_ hf rfl rfl rfl rfl rfl rfl ?_
  ·show mapS (pubV C1 8) _ _=_
   refine j04 rfl ?_;refine j04 (j0D (b:=false) (T:=25) (z:=5) (xs:=X) ?_ ?_ hp6) ?_
   ·rw[←hx];rfl
   ·rw[hXl];simp
   ·exact j04 rfl j0m
  repeat'(refine gU ?_)<;>conv=>whnf
  all_goals exact gJ
theorem j6i(hI:jc9 cs tot I)(ctx:List Tm)(cv:PV)(hc:CtxP ctx cv)(t:Tm)(v:PV)(h:TmP t v)(hs:shT t=true)(u:Tm)(uv:PV)(hu:TmP u uv)(su:shT u=true)(l:Int)(r:Except Int Tm)(l':Int)(h0:0≤l)(h1:l≤tot)(hx:j9P I ctx t u l=some (r,l')):IrT 181 [xI,cv,v,uv] cs tot l r l':=by
 have hc':=hc;obtain⟨b,z,xs,rfl,hz,hxs,h64,hsh⟩:=hc';have hlen:=hxs.len;have h':=h;have hu':=hu;obtain⟨k1,n1,s1,l1,t1,b1,z1,x1,c1,y1,ys1,-,rfl,-⟩:=h'.open;cases hu'.c;rcases j09 hx with⟨e,q1,rfl⟩|⟨c2',la,q1,q2⟩
 ·unfold j8M at q1
  by_cases hl:ctx.length<64
  ·rw[decide_eq_true hl] at q1;cases q1
  ·rw[decide_eq_false hl] at q1;cases q1;refine⟨by omega,?_⟩
   refine j00 Tryz.func181 rfl rfl rfl ?_;repeat'(first|refine gU ?_|apply gE<;>intro h)<;>conv=>whnf
   all_goals exact gJ
 unfold j8M at q1
 by_cases hl:ctx.length<64
 rotate_left
 ·rw[decide_eq_false hl] at q1;cases q1
 rw[decide_eq_true hl] at q1;cases q1;have ha:TmsP (ctx++[t]) (xs++[.ag [iv k1,iv n1,sv s1,.sl b1 z1 x1,.sl c1 y1 ys1]]):=hxs.append ⟨_,[],rfl,h,rfl⟩;have hcx:CtxP (ctx++[t]) (.sl false 5 (xs++[.ag [iv k1,iv n1,sv s1,.sl b1 z1 x1,.sl c1 y1 ys1]])):=⟨_,_,_,rfl,.inl rfl,ha,by simp;omega,fun x hx=>by
  rcases List.mem_append.1 hx with hx|hx
  ·exact hsh x hx
  ·rw[List.mem_singleton.1 hx];exact hs⟩
 have hf:=hI _ _ hcx u _ hu su l r l' h0 h1 q2;cases r with
 |error e=>
  obtain⟨he,hf⟩:=hf;exact⟨he,jrl ctx b z xs hz hxs hl _ _ _ _ _ _ _ _ _ ha.pure6 _ _ _ _ _ _ _ _ _ l l' _ _ _ _ _ _ _ _ _ e hf⟩
 |ok x=>
  obtain⟨hxs2,w,hw,hf⟩:=hf;refine⟨hxs2,w,hw,?_⟩;cases hw.c;exact jrl ctx b z xs hz hxs hl _ _ _ _ _ _ _ _ _ ha.pure6 _ _ _ _ _ _ _ _ _ l l' _ _ _ _ _ _ _ _ _ 0 hf
end
open Go Go.Am Go.Gw
section
variable{E:Nv}{cs:List PV}{tot:Int}{n:Nat}{I:List Tm→Tm→M Tm}
theorem jpK(hE:NvP E (.cp cs))(ht:tot≤1048576)(hI:jc9 cs tot I)(fI:∀c t,Fine (I c t))(ctx:List Tm)(cv:PV)(hc:CtxP ctx cv)(t:Tm)(v:PV)(h:TmP t v)(hs:shT t=true)(hk:t.kind=4)(l:Int)(r:Except Int Tm)(l':Int)(h0:0≤l)(h1:l≤tot)(hx:jsk E n I ctx t l=some (r,l')):IrT 111 [xI,cv,v] cs tot l r l':=by
 have hc':=hc;obtain⟨b,z,xs,rfl,-⟩:=hc';obtain⟨n1,s1,b1,z1,x1,c1,y1,ys1,rfl,hy1,hkid⟩:=kids h hs;obtain⟨a0,ha0,p0,i0⟩:=hkid 0 (by rw[hk];decide)
 obtain⟨a1,ha1,p1,i1⟩:=hkid 1 (by rw[hk];decide)
 have p0':=p0;have p1':=p1;cases p0'.c;cases p1'.c;unfold jsk at hx;rcases j09 hx with⟨e,q1,rfl⟩|⟨y,la,q1,q2⟩
 ·obtain⟨he,hf⟩:=hI ctx _ hc _ _ p0 i0 l _ l' h0 h1 q1;refine⟨he,?_⟩;refine j00 Tryz.func111 rfl rfl rfl ?_;repeat'(first|refine gU ?_|refine VIdx.mk _ ha0 ?_|refine gZ hy1 ?_|refine gW hf ?_)<;>conv=>whnf
  all_goals exact gJ
 obtain⟨-,wy,hwy,hf⟩:=hI ctx _ hc _ _ p0 i0 l _ la h0 h1 q1;have hla:=(fI ctx (t.arg 0)).dn l _ la h0 q1;have hr:=j7t cs tot la;have hwy':=hwy;cases hwy'.c;rcases j09 q2 with⟨e,q3,rfl⟩|⟨f,lb,q3,q4⟩
 ·have he:¬e=0:=fun e0=>by
   subst e0;exact(j0B (E:=E) n y).nz _ _ q3
  obtain⟨-,hg⟩:=j7K E cs hE tot ht n y _ hwy la _ l' (by omega) (by omega) q3
  simp only[errV] at hg;refine⟨he,?_⟩;refine j00 Tryz.func111 rfl rfl rfl ?_;repeat'(first|refine gU ?_|refine VIdx.mk _ ha0 ?_|refine gZ hy1 ?_|refine gW hf ?_|refine gW hr ?_|refine gW hg ?_|apply gK)<;>conv=>whnf
  all_goals exact gJ
 obtain⟨hs5,hg⟩:=j7K E cs hE tot ht n y _ hwy la _ lb (by omega) (by omega) q3
 have hlb:=(j0B (E:=E) n y).dn la _ lb (by omega) q3
 obtain⟨j1,j2,hfw⟩:=hs5 f rfl;simp only[errV] at hg;unfold TmW at hfw;generalize encT f=wf at *;obtain⟨n5,s5,b5,z5,x5,c5,y5,ys5,rfl,hy5,hkid5⟩:=kids hfw j1;rcases j09 q4 with⟨e,q5,rfl⟩|⟨u0,lc,q5,q6⟩
 ·obtain⟨rfl,d2⟩:=j1q q5;rcases d2 with⟨-,d2⟩|⟨d1,d2⟩
  ·cases d2
  cases d2;have hne:=of_decide_eq_false d1;refine⟨by omega,?_⟩
  refine j00 Tryz.func111 rfl rfl rfl ?_;repeat'(first|refine gU ?_|refine VIdx.mk _ ha0 ?_|refine gZ hy1 ?_|refine gW hf ?_|refine gW hr ?_|refine gW hg ?_|apply gK)<;>conv=>whnf
  all_goals exact gJ
 obtain⟨rfl,d2⟩:=j1q q5;rcases d2 with⟨d1,-⟩|⟨-,d2⟩
 rotate_left
 ·cases d2
 have hk6:=of_decide_eq_true d1;obtain⟨d0,hd0,o0,m0⟩:=hkid5 0 (by rw[hk6];decide)
 obtain⟨e1,he1,o1,m1⟩:=hkid5 1 (by rw[hk6];decide)
 have o0':=o0;have o1':=o1;cases o0'.c;cases o1'.c;rcases j09 q6 with⟨e,q7,rfl⟩|⟨u1,ld,q7,q8⟩
 ·obtain⟨he,hch⟩:=j6O hE ht hI fI ctx _ hc _ _ p1 i1 _ _ o0 lc _ l' (by omega) (by omega) q7
  refine⟨he,?_⟩;refine j00 Tryz.func111 rfl rfl rfl ?_;repeat'(first|refine gU ?_|refine VIdx.mk _ ha0 ?_|refine VIdx.mk _ ha1 ?_|refine gZ hy1 ?_|refine gW hf ?_|refine gW hr ?_|refine gW hg ?_|refine VIdx.mk _ hd0 ?_|refine gZ hy5 ?_|refine gW hch ?_|apply gK)<;>conv=>whnf
  all_goals exact gJ
 have hch:Fr _ _ _ _ _ (.ret [iv 0]) ld:=j6O hE ht hI fI ctx _ hc _ _ p1 i1 _ _ o0 lc _ ld (by omega) (by omega) q7
 have hN:=j6K _ _ o1 [t.arg 1] true 5 _ (.inl rfl) ⟨_,[],rfl,p1,rfl⟩ (by simp)
 have hoW:TmW ((InstF (f.arg 1) [t.arg 1]).getD tz):=j7k fun x hx=>j8O (by simpa using p1.w) o1.w hx
 rw[j5B] at hN;have hoS:∀x,InstF (f.arg 1) [t.arg 1]=some x→shT x=true:=fun x hx=>j6J hx
 generalize InstF (f.arg 1) [t.arg 1]=o at *;unfold TmW at hoW;obtain⟨k9,n9,s9,b9,z9,x9,c9,y9,ys9,he9⟩:=j07 (o.getD tz);rw[he9] at hN hoW;obtain⟨rfl,hfi⟩:=j8i o _ hoW q8;cases r with
 |error e=>
  obtain⟨rfl,hfi⟩:=hfi;refine⟨by omega,?_⟩
  refine j00 Tryz.func111 rfl rfl rfl ?_;repeat'(first|refine gU ?_|refine VIdx.mk _ ha0 ?_|refine VIdx.mk _ ha1 ?_|refine gZ hy1 ?_|refine gW hf ?_|refine gW hr ?_|refine gW hg ?_|refine VIdx.mk _ hd0 ?_|refine VIdx.mk _ he1 ?_|refine gZ hy5 ?_|refine gW hch ?_|refine j01 hN fun _=>?_|refine j01 hfi fun _=>?_|apply gK)<;>conv=>whnf
  all_goals exact gJ
 |ok x=>
  obtain⟨rfl,hzx,hfi⟩:=hfi;refine⟨⟨hoS _ rfl,hzx⟩,_,hoW,?_⟩;refine j00 Tryz.func111 rfl rfl rfl ?_;repeat'(first|refine gU ?_|refine VIdx.mk _ ha0 ?_|refine VIdx.mk _ ha1 ?_|refine gZ hy1 ?_|refine gW hf ?_|refine gW hr ?_|refine gW hg ?_|refine VIdx.mk _ hd0 ?_|refine VIdx.mk _ he1 ?_|refine gZ hy5 ?_|refine gW hch ?_|refine j01 hN fun _=>?_|refine j01 hfi fun _=>?_|apply gK)<;>conv=>whnf
  all_goals exact gJ
theorem jpN(hE:NvP E (.cp cs))(ht:tot≤1048576)(hI:jc9 cs tot I)(fI:∀c t,Fine (I c t))(ctx:List Tm)(cv:PV)(hc:CtxP ctx cv)(t:Tm)(v:PV)(h:TmP t v)(hs:shT t=true)(hk:t.kind=5)(l:Int)(r:Except Int Tm)(l':Int)(h0:0≤l)(h1:l≤tot)(hx:jsl E n I ctx t l=some (r,l')):IrT 112 [xI,cv,v] cs tot l r l':=by
 have hc':=hc;obtain⟨b,z,xs,rfl,-⟩:=hc';obtain⟨n1,s1,b1,z1,x1,c1,y1,ys1,rfl,hy1,hkid⟩:=kids h hs;obtain⟨a0,ha0,p0,i0⟩:=hkid 0 (by rw[hk];decide)
 obtain⟨a1,ha1,p1,i1⟩:=hkid 1 (by rw[hk];decide)
 have p0':=p0;have p1':=p1;cases p0'.c;cases p1'.c;unfold jsl at hx;rcases j09 hx with⟨e,q1,rfl⟩|⟨y,la,q1,q2⟩
 ·obtain⟨he,hf⟩:=j4F hE ht hI fI ctx _ hc _ _ p0 i0 l _ l' h0 h1 q1;refine⟨he,?_⟩;refine j00 Tryz.func112 rfl rfl rfl ?_;repeat'(first|refine gU ?_|refine VIdx.mk _ ha0 ?_|refine gZ hy1 ?_|refine gW hf ?_)<;>conv=>whnf
  all_goals exact gJ
 obtain⟨wy,hwy,hf⟩:=j4F hE ht hI fI ctx _ hc _ _ p0 i0 l _ la h0 h1 q1;have hla:=(j1V (E:=E) (n:=n) fI ctx (t.arg 0)).dn l _ la h0 q1;cases hwy.c;rcases j09 q2 with⟨e,q3,rfl⟩|⟨y2,lb,q3,q4⟩
 ·obtain⟨he,hw⟩:=j6i hI ctx _ hc _ _ p0 i0 _ _ p1 i1 la _ l' (by omega) (by omega) q3
  refine⟨he,?_⟩;refine j00 Tryz.func112 rfl rfl rfl ?_;repeat'(first|refine gU ?_|refine VIdx.mk _ ha0 ?_|refine VIdx.mk _ ha1 ?_|refine gZ hy1 ?_|refine gW hf ?_|refine gW hw ?_|apply gK)<;>conv=>whnf
  all_goals exact gJ
 obtain⟨⟨hys,hyz⟩,wb,hwb,hw⟩:=j6i hI ctx _ hc _ _ p0 i0 _ _ p1 i1 la _ lb (by omega) (by omega) q3
 obtain⟨wp,hwp,hp⟩:=jr8 y2 _ hwb [t.arg 0] true 5 _ (.inl rfl) ⟨_,[],rfl,p0,rfl⟩ (by simp)
 have hps:shT (overR 6 [t.arg 0] y2)=true:=j9W (by omega) rfl (by omega) (fun _=>rfl) (fun x hx=>by
  rcases List.mem_cons.1 hx with rfl|hx
  ·exact i0
  ·rw[List.mem_singleton.1 hx];exact hys) (by omega)
 have hwp:TmP ((some (overR 6 [t.arg 0] y2)).getD tz) wp:=hwp;obtain⟨rfl,hfi⟩:=j8i _ wp hwp q4;cases hwb.c;cases hwp.c;cases r with
 |error e=>
  obtain⟨rfl,hfi⟩:=hfi;refine⟨by omega,?_⟩
  refine j00 Tryz.func112 rfl rfl rfl ?_;repeat'(first|refine gU ?_|refine VIdx.mk _ ha0 ?_|refine VIdx.mk _ ha1 ?_|refine gZ hy1 ?_|refine gW hf ?_|refine gW hw ?_|refine j01 hp fun _=>?_|refine j01 hfi fun _=>?_|apply gK)<;>conv=>whnf
  all_goals exact gJ
 |ok x=>
  obtain⟨e,hzx,hfi⟩:=hfi;cases e;refine⟨⟨hps,hzx⟩,_,hwp,?_⟩;refine j00 Tryz.func112 rfl rfl rfl ?_;repeat'(first|refine gU ?_|refine VIdx.mk _ ha0 ?_|refine VIdx.mk _ ha1 ?_|refine gZ hy1 ?_|refine gW hf ?_|refine gW hw ?_|refine j01 hp fun _=>?_|refine j01 hfi fun _=>?_|apply gK)<;>conv=>whnf
  all_goals exact gJ
end
end Go.Proofs.YtbnodhcijeaceaaGreatDoor

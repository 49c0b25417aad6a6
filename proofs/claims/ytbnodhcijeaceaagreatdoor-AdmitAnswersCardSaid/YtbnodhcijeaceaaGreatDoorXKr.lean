/- Terms of the right shape: what is made of them is of it. -/
import Derived.Test.YtbnodhcijeaceaaGreatDoorXKn
set_option linter.all false
namespace Go.Proofs.YtbnodhcijeaceaaGreatDoor
open Go Go.Am Go.Gw
mutual
def shT:Tm→Bool
 | .mk k n _ ls ts=>(decide (1≤k)&&decide (k≤7))&&(decide ((ts.length:Int)=j0Y k)&&(if k=3 then decide (ls.length≤4) else decide ((ls.length:Int)=j0G k))&&(shTs ts&&(!decide (k=1)||decide (0≤n))))
def shTs:List Tm→Bool
 |[]=>true
 |t::r=>shT t&&shTs r
end
def jff:∀ts:List Tm,shTs ts=ts.all shT
 |[]=>rfl
 |t::r=>by rw[shTs,BH,jff r]
variable{b f k n:Int}{bys ls:List Lv}{ts us:List Tm}{s:List UInt8}{t x:Tm}
def j0w(h:shT (.mk k n s ls ts)=true):(1≤k∧k≤7)∧(ts.length:Int)=j0Y k∧(k=3→ls.length≤4)∧(¬k=3→(ls.length:Int)=j0G k)∧(∀t∈ts,shT t=true)∧(k=1→0≤n):=by
 rw[shT,jff] at h;simp only[AB,decide_eq_true_eq,AF] at h;obtain⟨h1,⟨h2,h3⟩,h4,h5⟩:=h;refine⟨h1,h2,fun e=>?_,fun e=>?_,h4,fun e=>by simpa[e] using h5⟩
 ·rw[if_pos e] at h3;simpa using h3
 ·rw[if_neg e] at h3;simpa using h3
def jaq(h1:1≤k∧k≤7)(h2:(ts.length:Int)=j0Y k)(h3:k=3→ls.length≤4)(h4:¬k=3→(ls.length:Int)=j0G k)(h5:∀t∈ts,shT t=true)(h6:k=1→0≤n):shT (.mk k n s ls ts)=true:=by
 rw[shT,jff];simp only[AB,decide_eq_true_eq,AF];refine⟨h1,⟨h2,?_⟩,h5,by by_cases e:k=1<;>simp[e,h6]⟩
 split
 ·rename_i e;simpa using h3 e
 ·rename_i e;simpa using h4 e
mutual
theorem jdL:∀(t:Tm) (p kk:Int),allT t p kk=true→shT t=true
 | .mk k n s ls ts,p,kk,h=>by
  obtain⟨h1,h2,h3,h4,h5⟩:=j0q h;refine jaq h1 h2 (fun e=>?_) (fun e=>?_) (jcb ts k 0 p kk h5) (fun e=>(j1L h3 e).1)
  ·simp only[j2Q] at h3;rw[if_neg (by omega),if_pos e] at h3
   simp at h3;omega
  ·simp only[j2Q] at h3;split at h3
   ·rename_i e1;simp at h3;subst e1;simp[j0G,h3.2.2.2]
   ·simp[e] at h3;omega
theorem jcb:∀(ts:List Tm) (k i p kk:Int),j0M ts k i p kk=true→∀t∈ts,shT t=true
 |[],_,_,_,_,_,t,ht=>by cases ht
 |a::r,k,i,p,kk,h,t,ht=>by
  simp only[j0M,AB] at h;rcases AN.1 ht with ht|ht
  ·rw[ht];exact jdL a _ _ h.1
  ·exact jcb r k (i+1) p kk h.2 t ht
end
def j6W{p kk:Int}(h:j0s t p kk=true):shT t=true:=jdL _ _ _ (j3A h).2.2.2
def jiN(h:anyT t=true):shT t=true:=j6W h
def jku:∀(t:Tm),shT t=true→shT (spF t).1=true∧(∀a∈(spF t).2,shT a=true)∧¬(spF t).1.kind=4
 | .mk k n s ls ts,h=>by
  obtain⟨h1,h2,h3,h4,h5,h6⟩:=j0w h
  by_cases hk:k=4
  ·subst hk;have hl:ts.length=2:=by
    have:j0Y 4=2:=rfl;omega
   match ts,hl,h5 with
   |[f,a],_,h5=>
    obtain⟨a1,a2,a3⟩:=jku f (h5 f (by simp))
    rw[jfk];refine⟨a1,?_,a3⟩
    intro x hx;rcases AN.1 hx with rfl|hx
    ·exact h5 _ (by simp)
    ·exact a2 x hx
  ·rw[jfl (fun e=>hk e.1)]
   exact⟨h,by simp,hk⟩
def ja1:∀(t:Tm),sizT (spF t).1+(spF t).2.length≤sizT t∧(∀a∈(spF t).2,sizT a<sizT t)
 | .mk k n s ls ts=>by
  by_cases hk:k=4∧ts.length=2
  ·obtain⟨rfl,hl⟩:=hk;match ts,hl with
   |[f,a],_=>
    obtain⟨a1,a2⟩:=ja1 f;rw[jfk];have e:sizT (.mk 4 n s ls [f,a])=1+j0d ls+(sizT f+(sizT a+0)):=by simp[sizT,j0x]
    have ha:=jkp a;refine⟨by simp only[AC];omega,?_⟩
    intro x hx;rcases AN.1 hx with rfl|hx
    ·omega
    ·have:=a2 x hx;omega
  ·rw[jfl hk];exact⟨by simp,by simp⟩
def jrw:∀(t:Tm),TmW t→TmW (spF t).1∧∀a∈(spF t).2,TmW a
 | .mk k n s ls ts,h=>by
  by_cases hk:k=4∧ts.length=2
  ·obtain⟨rfl,hl⟩:=hk;match ts,hl,h with
   |[f,a],_,h=>
    obtain⟨a1,a2⟩:=jrw f (h.args.1 f (by simp))
    rw[jfk];refine⟨a1,?_⟩
    intro x hx;rcases AN.1 hx with rfl|hx
    ·exact h.args.1 _ (by simp)
    ·exact a2 x hx
  ·rw[jfl hk];exact⟨h,by simp⟩
def j3o{a:Tm}:a∈j1i t↔a∈(spF t).2:=by simp[j1i]
def jhE:∀(ts:List Tm) (f:Tm),shT f=true→(∀a∈ts,shT a=true)→shT (appF f ts)=true
 |[],f,h,_=>h
 |a::r,f,h,hs=>by
  rw[appF];refine jhE r _ (jaq (by omega) rfl (by omega) (fun _=>rfl) ?_ (by omega)) fun x hx=>hs x (by simp[hx])
  intro x hx;rcases AN.1 hx with rfl|hx
  ·exact h
  ·rcases AN.1 hx with rfl|hx
   ·exact hs _ (by simp)
   ·cases hx
mutual
theorem jsL{put:Tm→Int→Option Tm}:∀(t:Tm) (d left:Int),(bldF put t d left).2≤left
 | .mk k n s ls ts,d,left=>by
  rw[bldF]
  by_cases h0:left<0
  ·rw[j4z h0];exact CX _
  ·cases hp:put (.mk k n s ls ts) d with
   |some x=>
    rw[j5y h0 hp];have:=j2r x;dsimp only;omega
   |none=>
    by_cases hl:ts.length=0
    ·rw[j4b h0 hp hl];have:=j2r (.mk k n s ls ts);dsimp only;omega
    ·rw[j4c h0 hp hl];have:=jeg (put:=put) ts k 0 d (left-1);dsimp only;omega
theorem jeg{put:Tm→Int→Option Tm}:∀(ts:List Tm) (k i d left:Int),(j1C put ts k i d left).2≤left
 |[],_,_,_,left=>by
  rw[j1C];exact CX _
 |t::r,k,i,d,left=>by
  rw[j1C];have h1:=jsL (put:=put) t (j0n (j0g k) i d) left;have h2:=jeg (put:=put) r k (i+1) d (bldF put t (j0n (j0g k) i d) left).2;dsimp only;omega
end
mutual
theorem jnd{put:Tm→Int→Option Tm}(hA:∀t d x,shT t=true→0≤d→put t d=some x→shT x=true):∀(t:Tm) (d left:Int),shT t=true→0≤d→0≤(bldF put t d left).2→shT (bldF put t d left).1=true
 | .mk k n s ls ts,d,left,h,gA,qA=>by
  rw[bldF] at qA ⊢
  by_cases h0:left<0
  ·rw[j4z h0] at qA;dsimp only at qA;omega
  ·cases hp:put (.mk k n s ls ts) d with
   |some x=>
    rw[j5y h0 hp];exact hA _ _ _ h gA hp
   |none=>
    by_cases hl:ts.length=0
    ·rw[j4b h0 hp hl];exact h
    ·rw[j4c h0 hp hl] at qA⊢;obtain⟨h1,h2,h3,h4,h5,h6⟩:=j0w h;have wA:¬k=3:=fun e=>by
      subst e;have:j0Y 3=0:=rfl;omega
     have hB:¬k=2:=fun e=>by
      subst e;have:j0Y 2=0:=rfl;omega
     refine jaq h1 (by rw[j6u];exact h2) (fun e=>absurd e wA) (fun _=>?_) ?_ (fun _=>CX 0)
     ·unfold j0G;rw[if_neg (by simpa[Tm.kind] using hB)]
      rfl
     ·exact jjo hA ts k 0 d (left-1) h5 gA qA
theorem jjo{put:Tm→Int→Option Tm}(hA:∀t d x,shT t=true→0≤d→put t d=some x→shT x=true):∀(ts:List Tm) (k i d left:Int),(∀t∈ts,shT t=true)→0≤d→0≤(j1C put ts k i d left).2→∀x∈(j1C put ts k i d left).1,shT x=true
 |[],_,_,_,_,_,_,_,x,hx=>by
  rw[j1C] at hx;cases hx
 |t::r,k,i,d,left,h,gA,qA,x,hx=>by
  have hi:=j2q (j0g k) i d;rw[j1C] at hx qA;dsimp only at hx qA;have h2:=jeg (put:=put) r k (i+1) d (bldF put t (j0n (j0g k) i d) left).2;rcases AN.1 hx with rfl|hx
  ·exact jnd hA t _ left (h t (by simp)) (by omega) (by omega)
  ·exact jjo hA r k (i+1) d _ (fun y hy=>h y (by simp[hy])) gA qA x hx
end
def jeN{put:Tm→Int→Option Tm}(hA:∀t d x,shT t=true→0≤d→put t d=some x→shT x=true)(h:shT t=true)(hx:j3K put t=some x):shT x=true:=by
 unfold j3K at hx;split at hx
 ·cases hx
 ·cases hx;exact jnd hA t 0 2000 h (by omega) (by omega)
def jiO(h:0≤n):shT (.mk 1 n [] [] [])=true:=jaq (by omega) rfl (by omega) (fun _=>rfl) (by simp) (fun _=>h)
def jpq(h:shT t=true)(hk:t.kind=1):0≤t.num:=by
 obtain⟨k,n,s,ls,ts⟩:=t;exact(j0w h).2.2.2.2.2 hk
def joP(hb:0≤b):∀t d x,shT t=true→0≤d→movF b f t d=some x→shT x=true:=fun t d x hs hd h=>by
 unfold movF at h;split at h
 ·rename_i hc;cases h;have:=jpq hs hc.1;exact jiO (by omega)
 ·cases h
def jm6(h:anyT t=true){d:Int}(hd:0≤d):shT (j4u t d)=true:=by
 have hm:=jqO (put:=movF d 0) (jqS d 0) (j9r h);have:=jeN (joP hd) (jiN h) hm;unfold j4u;rw[hm];exact this
def jta(hu:∀u∈us,anyT u=true):∀t d x,shT t=true→0≤d→insF us t d=some x→shT x=true:=fun t d x _ hd h=>by
 unfold insF at h;split at h
 ·rename_i hc;cases h;split
  ·exact jiO (by omega)
  ·rename_i h3;have hq:((us.length:Int)-1-(t.num-d)).toNat<us.length:=by omega
   have hm:us.getD ((us.length:Int)-1-(t.num-d)).toNat tz∈us:=by
    rw[AQ,AA hq];exact DH hq
   exact jm6 (hu _ hm) hd
 ·cases h
def jb1(h:InstF t us=some x):anyT t=true∧us.length≤1048576∧us.all anyT=true∧j3K (insF us) t=some x:=by
 unfold InstF at h;split at h
 ·rename_i hc;exact⟨hc.1,hc.2.1,hc.2.2,h⟩
 ·cases h
def j7j(h:InstF t us=some x):shT x=true:=by
 obtain⟨h1,h2,h3,h4⟩:=jb1 h;exact jeN (jta (AF.1 h3)) (jiN h1) h4
def j9n(hu:∀u∈us,TmW u)(ht:TmW t)(h:InstF t us=some x):TmW x:=by
 obtain⟨h1,h2,h3,h4⟩:=jb1 h;exact jeM (jjQ hu (AF.1 h3) h2) ht (j2n h1).2 (by omega) (by have:=j5w h1;omega) (j5w h1) h4
def jb3(h:j7D t b f=some x):anyT t=true∧(0≤b∧b≤1048576)∧(0≤f∧f≤1048576)∧j3K (movF b f) t=some x:=by
 unfold j7D at h;split at h
 ·rename_i hc;exact⟨hc.1,hc.2.1,hc.2.2,h⟩
 ·cases h
def jjb(h:j7D t b f=some x):shT x=true:=by
 obtain⟨h1,h2,h3,h4⟩:=jb3 h;exact jeN (joP h2.1) (jiN h1) h4
def jjc(ht:TmW t)(h:j7D t b f=some x):TmW x:=by
 obtain⟨h1,h2,h3,h4⟩:=jb3 h;exact jeM (jk9 (by omega)) ht (j2n h1).2 (by omega) (by have:=j5w h1;omega) (j5w h1) h4
def jds:∀{ls bys xs:List Lv},j1J ls bys=some xs→xs.length=ls.length
 |[],bys,xs,h=>by
  simp[j1J] at h;subst h;rfl
 |l::r,bys,xs,h=>by
  rw[j1J] at h;split at h
  ·cases h
  ·cases h1:j1J r bys with
   |none=>rw[h1] at h;cases h
   |some ys=>
    rw[h1] at h;cases h;simp[jds h1]
def jk2:∀{ts:List Tm}{bys:List Lv}{xs:List Tm},lvTs ts bys=some xs→xs.length=ts.length
 |[],bys,xs,h=>by
  simp[lvTs] at h;subst h;rfl
 |t::r,bys,xs,h=>by
  rw[lvTs] at h;split at h
  ·cases h
  ·cases h1:lvTs r bys with
   |none=>rw[h1] at h;cases h
   |some ys=>
    rw[h1] at h;cases h;simp[jk2 h1]
mutual
theorem js6{bys:List Lv}:∀{t x:Tm},shT t=true→lvT t bys=some x→shT x=true
 | .mk k n s ls ts,x,h,hx=>by
  obtain⟨h1,h2,h3,h4,h5,h6⟩:=j0w h;rw[lvT] at hx;cases e1:j1J ls bys with
  |none=>rw[e1] at hx;cases hx
  |some ls'=>
   rw[e1] at hx;cases e2:lvTs ts bys with
   |none=>rw[e2] at hx;cases hx
   |some ts'=>
    rw[e2] at hx;cases hx;have a1:=jds e1;have a2:=jk2 e2;exact jaq h1 (by rw[a2];exact h2) (fun e=>by rw[a1];exact h3 e) (fun e=>by rw[a1];exact h4 e) (joH h5 e2) h6
theorem joH{bys:List Lv}:∀{ts xs:List Tm},(∀t∈ts,shT t=true)→lvTs ts bys=some xs→∀t∈xs,shT t=true
 |[],xs,h,hx,t,ht=>by
  simp[lvTs] at hx;subst hx;cases ht
 |a::r,xs,h,hx,t,ht=>by
  rw[lvTs] at hx;split at hx
  ·cases hx
  ·rename_i y e1;cases e2:lvTs r bys with
   |none=>rw[e2] at hx;cases hx
   |some ys=>
    rw[e2] at hx;cases hx;rcases AN.1 ht with rfl|ht
    ·exact js6 (h a (by simp)) e1
    ·exact joH (fun x hx=>h x (by simp[hx])) e2 t ht
end
def j5t(h:j1S t bys=some x):j0s t bys.length 1125899906842624=true∧lvT t bys=some x∧j0A x≤2000:=by
 unfold j1S at h;split at h
 ·rename_i h1;split at h
  ·cases h
  ·rename_i y h2;split at h
   ·rename_i h3;cases h;exact⟨h1,h2,h3⟩
   ·cases h
 ·cases h
def j9o(h:j1S t bys=some x):shT x=true:=by
 obtain⟨h1,h2,h3⟩:=j5t h;exact js6 (j6W h1) h2
def jb2(hb:∀l∈bys,LvW l)(ht:TmW t)(h:j1S t bys=some x):TmW x:=jtk hb ht (j5t h).2.1
def jfT{pars:Int}(h:atF pars t bys=.ok x):j1S t bys=some x:=by
 unfold atF at h;split at h
 ·cases h
 ·split at h
  ·cases h
  ·rename_i y h2;cases h;exact h2
end Go.Proofs.YtbnodhcijeaceaaGreatDoor
namespace Go.Gw
def Tm.arg(t:Tm)(i:Nat):Tm:=t.args.getD i (.mk 0 0 [] [] [])
def Tm.lv(t:Tm):Lv:=t.levels.getD 0 (.mk 0 0 [])
end Go.Gw
namespace Go.Proofs.YtbnodhcijeaceaaGreatDoor
open Go Go.Am Go.Gw
abbrev M(α:Type):Type:=Int→Option (Except Int α×Int)
section
variable{α β:Type}
def mok(a:α):M α:=fun l=>some (.ok a,l)
def mno(e:Int):M α:=fun l=>some (.error e,l)
def bnd(x:M α)(f:α→M β):M β:=fun l=>match x l with
 |none=>none
 |some (.error e,l')=>some (.error e,l')
 |some (.ok a,l')=>f a l'
def j3w(b:Bool)(e:Int):M Unit:=match b with
 |true=>mok ()
 |false=>mno e
def j6c:M Unit:=fun l=>match decide (1≤l) with
 |true=>some (.ok (),l-1)
 |false=>some (.error 22,l)
def optF(o:Option α)(e:Int):M α:=match o with
 |some a=>mok a
 |none=>mno e
def exF(o:Except Int α):M α:=fun l=>some (o,l)
variable{b:Bool}{r:Except Int Unit}{e l l':Int}
def j0b{x:M α}{f:α→M β}{r:Except Int β}(h:bnd x f l=some (r,l')):(∃e,x l=some (.error e,l')∧r=.error e)∨∃a l1,x l=some (.ok a,l1)∧f a l1=some (r,l'):=by
 unfold bnd at h;split at h
 ·cases h
 ·rename_i e l1 hx;cases h;exact .inl ⟨e,hx,rfl⟩
 ·rename_i a l1 hx;exact .inr ⟨a,l1,hx,h⟩
def j1k(h:j3w b e l=some (r,l')):l'=l∧((b=true∧r=.ok ())∨(b=false∧r=.error e)):=by
 cases b<;>cases h<;>simp
def j1l(h:j6c l=some (r,l')):(1≤l∧l'=l-1∧r=.ok ())∨(l<1∧l'=l∧r=.error 22):=by
 unfold j6c at h
 by_cases c:1≤l
 ·rw[decide_eq_true c] at h;cases h;exact .inl ⟨c,rfl,rfl⟩
 ·rw[decide_eq_false c] at h;cases h;exact .inr ⟨by omega,rfl,rfl⟩
structure Fine (x:M α):Prop where
 dn:∀l r l',0≤l→x l=some (r,l')→0≤l'∧l'≤l
 more:∀l r l' k,0≤l→0≤k→x l=some (r,l')→r≠.error 22→x (l+k)=some (r,l'+k)
 out:∀l l' k,0≤l→0≤k→x l=some (.error 22,l')→l'=0∧∀r2 l2,x (l+k)=some (r2,l2)→l2≤k
 nz:∀l l',x l≠some (.error 0,l')
def j0r(a:α):Fine (mok a):=⟨fun l r l' h0 h=>by cases h;exact⟨h0,CX _⟩,fun l r l' k h0 hk h hr=>by cases h;rfl,fun l l' k h0 hk h=>(by cases h),fun l l' h=>by cases h⟩
def jnU(he:e≠22∧e≠0):Fine (mno (α:=α) e):=⟨fun l r l' h0 h=>by cases h;exact⟨h0,CX _⟩,fun l r l' k h0 hk h hr=>by cases h;rfl,fun l l' k h0 hk h=>(by cases h;exact absurd rfl he.1),fun l l' h=>by cases h;exact absurd rfl he.2⟩
def j0y(he:e≠22∧e≠0):Fine (j3w b e):=by
 cases b with
 |true=>exact j0r _
 |false=>exact jnU he
def jjF{o:Option α}(he:e≠22∧e≠0):Fine (optF o e):=by
 cases o with
 |some a=>exact j0r _
 |none=>exact jnU he
def jt0{o:Except Int α}(he:o≠.error 22∧o≠.error 0):Fine (exF o):=⟨fun l r l' h0 h=>by cases h;exact⟨h0,CX _⟩,fun l r l' k h0 hk h hr=>by cases h;rfl,fun l l' k h0 hk h=>(by cases h;exact absurd rfl he.1),fun l l' h=>by cases h;exact absurd rfl he.2⟩
def j4j:Fine j6c:=by
 refine⟨fun l r l' h0 h=>?_,fun l r l' k h0 hk h hr=>?_,fun l l' k h0 hk h=>?_,fun l l' h=>?_⟩
 ·rcases j1l h with⟨h1,h2,h3⟩|⟨h1,h2,h3⟩<;>omega
 ·rcases j1l h with⟨h1,h2,h3⟩|⟨h1,h2,h3⟩
  ·unfold j6c;rw[decide_eq_true (by omega:1≤l+k),h3,h2]
   simp only[AD,BB,true_and];omega
  ·exact absurd h3 hr
 ·rcases j1l h with⟨h1,h2,h3⟩|⟨h1,h2,h3⟩
  ·cases h3
  ·refine⟨by omega,fun r2 l2 h'=>?_⟩
   rcases j1l h' with⟨a1,a2,a3⟩|⟨a1,a2,a3⟩<;>omega
 ·rcases j1l h with⟨h1,h2,h3⟩|⟨h1,h2,h3⟩<;>cases h3
def j08{x:M α}{f:α→M β}(hx:Fine x)(hf:∀a,Fine (f a)):Fine (bnd x f):=by
 refine⟨fun l r l' h0 h=>?_,fun l r l' k h0 hk h hr=>?_,fun l l' k h0 hk h=>?_,fun l l' h=>?_⟩
 ·rcases j0b h with⟨e,h1,h2⟩|⟨a,l1,h1,h2⟩
  ·exact hx.dn l _ l' h0 h1
  ·have:=hx.dn l _ l1 h0 h1;have:=(hf a).dn l1 r l' this.1 h2;omega
 ·rcases j0b h with⟨e,h1,h2⟩|⟨a,l1,h1,h2⟩
  ·subst h2;have:=hx.more l _ l' k h0 hk h1 (fun e'=>hr (by cases e';rfl))
   simp only[bnd,this]
  ·have h3:=hx.dn l _ l1 h0 h1;have h4:=hx.more l _ l1 k h0 hk h1 (by simp)
   have h5:=(hf a).more l1 r l' k h3.1 hk h2 hr;simp only[bnd,h4,h5]
 ·rcases j0b h with⟨e,h1,h2⟩|⟨a,l1,h1,h2⟩
  ·cases h2;obtain⟨a1,a2⟩:=hx.out l l' k h0 hk h1;refine⟨a1,fun r2 l2 h'=>?_⟩
   rcases j0b h' with⟨e,b1,b2⟩|⟨a,l1,b1,b2⟩
   ·exact a2 _ _ b1
   ·have c1:=a2 _ _ b1;have c2:=hx.dn (l+k) _ l1 (by omega) b1
    have c3:=(hf a).dn l1 _ l2 c2.1 b2;omega
  ·have h3:=hx.dn l _ l1 h0 h1;have h4:=hx.more l _ l1 k h0 hk h1 (by simp)
   obtain⟨a1,a2⟩:=(hf a).out l1 l' k h3.1 hk h2;refine⟨a1,fun r2 l2 h'=>?_⟩
   simp only[bnd,h4] at h';exact a2 r2 l2 h'
 ·rcases j0b h with⟨e,h1,h2⟩|⟨a,l1,h1,h2⟩
  ·cases h2;exact hx.nz _ _ h1
  ·exact(hf a).nz _ _ h2
def Le(x y:M α):Prop:=∀l r l',x l=some (r,l')→y l=some (r,l')
def Le.refl(x:M α):Le x x:=fun _ _ _ h=>h
def Le.bnd{x y:M α}{f g:α→M β}(h:Le x y)(hf:∀a,Le (f a) (g a)):Le (bnd x f) (Go.Proofs.YtbnodhcijeaceaaGreatDoor.bnd y g):=fun l r l' h'=>by
 rcases j0b h' with⟨e,h1,h2⟩|⟨a,l1,h1,h2⟩
 ·subst h2;have:=h _ _ _ h1;simp only[Go.Proofs.YtbnodhcijeaceaaGreatDoor.bnd,this]
 ·have h3:=h _ _ _ h1;have h4:=hf a _ _ _ h2;simp only[Go.Proofs.YtbnodhcijeaceaaGreatDoor.bnd,h3,h4]
end
def appO(o:Option Tm)(ts:List Tm):Option Tm:=match o with
 |none=>none
 |some b=>some (appF b ts)
def okO(o:Except Int Tm):Option Tm:=match o with
 | .ok x=>some x
 | .error _=>none
def j8q(o:Option Tm)(ts:List Tm):(appO o ts).isSome=o.isSome:=by cases o<;>rfl
def jbh(E:Nv)(t:Tm)(ofs:List (List UInt8)):Option (En×List Tm):=
 if(spF t).1.kind=3∧(spF t).1.name∈ofs then
  match j0E E (spF t).1.name with
  |none=>none
  |some e=>if e.kind=6∧¬e.val.kind=0∧((j1i t).length:Int)=e.fixd+e.flds then some (e,j1i t) else none
 else none
def j4X(e:En):Int:=e.fixd+1+e.ctors.length
abbrev Rdx:Type:=Option (Int×Option Tm)
def jik(E:Nv)(hd:Tm→M Tm)(c:Tm)(e:En)(args:List Tm):M Rdx:=
 if(args.length:Int)≤j4X e+e.idx then mok none
 else bnd (hd (args.getD (j4X e+e.idx).toNat tz)) fun x=>match jbh E x e.ctors with
  |none=>mok none
  |some (k,fs)=>mok (some (4,appO (j1S k.val c.levels) (args.take (j4X e).toNat++(fs.drop k.fixd.toNat++args.drop (j4X e+e.idx+1).toNat))))
def j2o(E:Nv)(hd:Tm→M Tm)(c:Tm)(args:List Tm):M Rdx:=match j0E E c.name with
 |none=>mok none
 |some e=>if ¬(c.levels.length:Int)=e.pars then mok none else if e.kind=2 then mok (some (3,appO (okO (j2X E c.name c.levels)) args)) else if e.kind=7 then jik E hd c e args else mok none
def jnS(E:Nv)(hd:Tm→M Tm)(h:Tm)(args:List Tm):M Rdx:=
 if h.kind=5∧¬args.length=0 then mok (some (1,appO (InstF (h.arg 1) [args.getD 0 tz]) (args.drop 1)))
 else if h.kind=7 then mok (some (2,appO (InstF (h.arg 2) [h.arg 1]) args))
 else if h.kind=3 then j2o E hd h args else mok none
def jax(E:Nv)(hd:Tm→M Tm)(t:Tm):M Rdx:=jnS E hd (spF t).1 (j1i t)
def j8a(o:Option Tm):M Tm:=bnd j6c fun _=>bnd (optF o 15) fun out=>bnd (j3w (decide (j0A out≤2000)) 15) fun _=>mok out
def headB(E:Nv)(hd:Tm→M Tm)(t:Tm):M Tm:=bnd (jax E hd t) fun r=>match r with
 |none=>mok t
 |some (_,o)=>bnd (j8a o) hd
noncomputable def j7X(E:Nv)(n:Nat):Tm→M Tm:=Nat.rec (motive:=fun _=>Tm→M Tm) (fun _ _=>none) (fun _ hd t=>headB E hd t) n
def jdn(E:Nv)(n:Nat)(t:Tm):j7X E (n+1) t=headB E (j7X E n) t:=rfl
noncomputable def j3M(E:Nv)(n:Nat)(t:Tm):M Tm:=bnd (j3w (jbY t) 10) fun _=>j7X E n t
section
variable{E:Nv}
variable{m n:Nat}{hd hd':Tm→M Tm}
def jnT(h:∀t,Fine (hd t))(c:Tm)(e:En)(args:List Tm):Fine (jik E hd c e args):=by
 unfold jik;split
 ·exact j0r _
 ·refine j08 (h _) fun x=>?_
  split<;>exact j0r _
def jln(h:∀t,Fine (hd t))(c:Tm)(args:List Tm):Fine (j2o E hd c args):=by
 unfold j2o;split
 ·exact j0r _
 ·(repeat' split)<;>first|exact j0r _|exact jnT h _ _ _
def j8C(h:∀t,Fine (hd t))(t:Tm):Fine (jax E hd t):=by
 unfold jax jnS;split
 ·exact j0r _
 ·split
  ·exact j0r _
  ·split
   ·exact jln h _ _
   ·exact j0r _
def jgo(o:Option Tm):Fine (j8a o):=j08 j4j fun _=>j08 (jjF (by omega)) fun _=>j08 (j0y (by omega)) fun _=>j0r _
def jlo(h:∀t,Fine (hd t))(t:Tm):Fine (headB E hd t):=by
 refine j08 (j8C h t) fun r=>?_
 split
 ·exact j0r _
 ·exact j08 (jgo _) h
def j8D{α:Type}:Fine (α:=α) (fun _=>none):=⟨fun l r l' h0 h=>(by cases h),fun l r l' k h0 hk h hr=>(by cases h),fun l l' k h0 hk h=>(by cases h),fun l l' h=>(by cases h)⟩
def j6B:∀(n:Nat) (t:Tm),Fine (j7X E n t)
 |0,_=>j8D
 |n+1,t=>jlo (j6B n) t
def j0I(n:Nat)(t:Tm):Fine (j3M E n t):=j08 (j0y (by omega)) fun _=>j6B n t
def jow(h:∀t,Le (hd t) (hd' t))(t:Tm):Le (jax E hd t) (jax E hd' t):=by
 unfold jax jnS;split
 ·exact Le.refl _
 ·split
  ·exact Le.refl _
  ·split
   ·unfold j2o;split
    ·exact Le.refl _
    ·split
     ·exact Le.refl _
     ·split
      ·exact Le.refl _
      ·split
       ·unfold jik;split
        ·exact Le.refl _
        ·exact Le.bnd (h _) fun _=>Le.refl _
       ·exact Le.refl _
   ·exact Le.refl _
def jqJ(h:∀t,Le (hd t) (hd' t))(t:Tm):Le (headB E hd t) (headB E hd' t):=by
 refine Le.bnd (jow h t) fun r=>?_
 split
 ·exact Le.refl _
 ·exact Le.bnd (Le.refl _) h
def jjX:∀(n:Nat) (t:Tm),Le (j7X E n t) (j7X E (n+1) t)
 |0,_=>fun _ _ _ h=>by cases h
 |n+1,t=>jqJ (jjX n) t
def jeG(h:n≤m)(t:Tm):Le (j7X E n t) (j7X E m t):=by
 induction m with
 |zero=>
  obtain rfl:n=0:=by omega
  exact Le.refl _
 |succ m ih=>
  by_cases e:n=m+1
  ·subst e;exact Le.refl _
  ·exact fun l r l' h'=>jjX m t _ _ _ (ih (by omega) _ _ _ h')
def j6J(h:n≤m)(t:Tm):Le (j3M E n t) (j3M E m t):=Le.bnd (Le.refl _) fun _=>jeG h t
end
open Go Go.Am Go.Gw
def j4W(o:Option Tm):M Tm:=bnd (optF o 15) fun x=>bnd (j3w (decide (j0A x≤2000)) 15) fun _=>mok x
def j6Z(l:Lv):M Lv:=bnd (j3w (j0C l 4) 15) fun _=>mok l
def j9k(ctx:List Tm)(t:Tm):M (List Tm):=bnd (j3w (decide (ctx.length<64)) 15) fun _=>mok (ctx++[t])
section
variable(E:Nv)(W:Tm→M Tm)(T:List Tm→Tm→M Tm)
def sortB(ctx:List Tm)(t:Tm):M Lv:=bnd j6c fun _=>bnd (T ctx t) fun x=>bnd (W x) fun s=>bnd (j3w (decide (s.kind=2)) 19) fun _=>mok s.lv
def typB(ctx:List Tm)(t:Tm):M Tm:=bnd j6c fun _=>
 if t.kind=1 then bnd (j3w (decide (t.num<ctx.length)) 10) fun _=>j4W (j7D (ctx.getD ((ctx.length:Int)-1-t.num).toNat tz) (t.num+1) 0)
 else if t.kind=2 then bnd (j6Z (jiR t.lv)) fun l=>mok (jfi l)
 else if t.kind=3 then exF (typeAt E t.name t.levels)
 else if t.kind=4 then bnd (T ctx (t.arg 0)) fun y=>bnd (W y) fun f=>bnd (j3w (decide (f.kind=6)) 20) fun _=>j4W (InstF (f.arg 1) [t.arg 1])
 else if t.kind=5 then bnd (j9k ctx (t.arg 0)) fun c2=>bnd (T c2 (t.arg 1)) fun b=>j4W (some (overR 6 [t.arg 0] b))
 else if t.kind=6 then bnd (sortB W T ctx (t.arg 0)) fun l=>bnd (j9k ctx (t.arg 0)) fun c2=>bnd (sortB W T c2 (t.arg 1)) fun m=>bnd (j6Z (j9s l m)) fun x=>mok (jfi x)
 else bnd (j4W (InstF (t.arg 2) [t.arg 1])) fun x=>T ctx x
def jsh(ctx:List Tm)(t:Tm):M (Option Tm):=bnd j6c fun _=>bnd (T ctx t) fun ty=>bnd (sortB W T ctx ty) fun s=>mok (match ja7 s with
 |true=>some ty
 |false=>none)
def j6i(x:M (Option Tm)):M (Option Tm):=fun l=>match x l with
 |none=>none
 |some (.ok a,l')=>some (.ok a,l')
 |some (.error e,l')=>match decide (e=22)||decide (e=15) with
  |true=>some (.error e,l')
  |false=>some (.ok none,l')
def jc1(ctx:List Tm)(t:Tm):M (Option Tm):=j6i (jsh W T ctx t)
end
noncomputable def typF(E:Nv)(n:Nat):List Tm→Tm→M Tm:=Nat.rec (motive:=fun _=>List Tm→Tm→M Tm) (fun _ _ _=>none) (fun m T ctx t=>typB E (j3M E m) T ctx t) n
def jpH(E:Nv)(n:Nat)(ctx:List Tm)(t:Tm):typF E (n+1) ctx t=typB E (j3M E n) (typF E n) ctx t:=rfl
def j2j:List Lv→List Lv→Bool
 |[],[]=>true
 |l::r,m::s=>jap l m&&j2j r s
 |_,_=>false
def ja9(a b:Tm):Bool:=decide (a.kind=b.kind)&&((decide (a.kind=1)&&decide (a.num=b.num))||(decide (a.kind=3)&&(a.name == b.name&&j2j a.levels b.levels)))
def j7J(S:Tm→Tm→M Bool):List Tm→List Tm→M Bool
 |a::r,b::s=>bnd (S a b) fun q=>match q with
  |true=>j7J S r s
  |false=>mok false
 |_,_=>mok true
def jhZ(S:Tm→Tm→M Bool)(x y:List Tm):M Bool:=match decide (x.length=y.length) with
 |true=>j7J S x y
 |false=>mok false
section
variable(W:Tm→M Tm)(T:List Tm→Tm→M Tm)(S:List Tm→Tm→Tm→M Bool)
def j4v(ctx:List Tm)(a b:Tm):M Bool:=match ja9 (spF a).1 (spF b).1 with
 |true=>jhZ (S ctx) (j1i a) (j1i b)
 |false=>mok false
def etaB(ctx:List Tm)(f t:Tm):M Bool:=bnd (j4W (j7D t 1 0)) fun up=>bnd (j9k ctx (f.arg 0)) fun c2=>bnd (j4W (some (appF up [.mk 1 0 [] [] []]))) fun u=>S c2 (f.arg 1) u
def j4k(ctx:List Tm)(a b:Tm):M Bool:=
 if a.kind=2∧b.kind=2 then mok (jap a.lv b.lv)
 else if a.kind=b.kind∧(a.kind=6∨a.kind=5) then bnd (S ctx (a.arg 0) (b.arg 0)) fun q=>match q with
  |true=>bnd (j9k ctx (a.arg 0)) fun c2=>S c2 (a.arg 1) (b.arg 1)
  |false=>mok false
 else if a.kind=5 then etaB S ctx a b else if b.kind=5 then etaB S ctx b a else j4v S ctx a b
def j2U(ctx:List Tm)(a b:Tm):M Bool:=bnd (jc1 W T ctx a) fun p=>match p with
 |none=>mok false
 |some p=>bnd (jc1 W T ctx b) fun q=>match q with
  |none=>mok false
  |some q=>S ctx p q
def j4O(a b:Tm):Bool:=decide ((spF a).1.kind=3)&&(decide (0<(j1i a).length)&&(decide ((j1i a).length=(j1i b).length)&&ja9 (spF a).1 (spF b).1))
def j8L(ctx:List Tm)(a b:Tm):M Bool:=match j4O a b with
 |true=>j4v S ctx a b
 |false=>mok false
def j3O(ctx:List Tm)(a b x y:Tm):M Bool:=match j4O a b&&(eqTm a x&&eqTm b y) with
 |true=>mok false
 |false=>j4k S ctx x y
def jiM(ctx:List Tm)(a b:Tm):M Bool:=bnd j6c fun _=>match eqTm a b with
 |true=>mok true
 |false=>bnd (j8L S ctx a b) fun ok=>match ok with
  |true=>mok true
  |false=>bnd (W a) fun x=>bnd (W b) fun y=>bnd (j3O S ctx a b x y) fun q=>match q with
   |true=>mok true
   |false=>j2U W T S ctx x y
end
noncomputable def j2t(E:Nv)(n:Nat):List Tm→Tm→Tm→M Bool:=Nat.rec (motive:=fun _=>List Tm→Tm→Tm→M Bool) (fun _ _ _ _=>none) (fun m S ctx a b=>jiM (j3M E m) (typF E m) S ctx a b) n
def jmi(E:Nv)(n:Nat)(ctx:List Tm)(a b:Tm):j2t E (n+1) ctx a b=jiM (j3M E n) (typF E n) (j2t E n) ctx a b:=rfl
def ctxF:List Tm→Int→Bool
 |[],_=>true
 |t::r,i=>j0s t 4 i&&ctxF r (i+1)
def j1G(ctx:List Tm)(ts:List Tm):Bool:=decide (ctx.length≤64)&&(ctxF ctx 0&&ts.all fun t=>j0s t 4 ctx.length)
noncomputable def jbd(E:Nv)(n:Nat)(ctx:List Tm)(t:Tm):M Tm:=bnd (j3w (j1G ctx [t]) 10) fun _=>typF E n ctx t
noncomputable def j8v(E:Nv)(n:Nat)(ctx:List Tm)(a b:Tm):M Bool:=bnd (j3w (j1G ctx [a,b]) 10) fun _=>j2t E n ctx a b
noncomputable def jv1(E:Nv)(n:Nat)(ctx:List Tm)(t:Tm):M Bool:=bnd (j3w (j1G ctx [t]) 10) fun _=>bnd (jc1 (j3M E n) (typF E n) ctx t) fun p=>mok p.isSome
noncomputable def jvo(E:Nv)(n:Nat)(ctx:List Tm)(t:Tm):M Lv:=bnd (j3w (j1G ctx [t]) 10) fun _=>sortB (j3M E n) (typF E n) ctx t
section
variable{E:Nv}{W:Tm→M Tm}{T:List Tm→Tm→M Tm}{S:List Tm→Tm→Tm→M Bool}
def j1x(o:Option Tm):Fine (j4W o):=j08 (jjF (by omega)) fun _=>j08 (j0y (by omega)) fun _=>j0r _
def j9G(l:Lv):Fine (j6Z l):=j08 (j0y (by omega)) fun _=>j0r _
def j2p(ctx:List Tm)(t:Tm):Fine (j9k ctx t):=j08 (j0y (by omega)) fun _=>j0r _
def j3t(hW:∀t,Fine (W t))(hT:∀c t,Fine (T c t))(ctx:List Tm)(t:Tm):Fine (sortB W T ctx t):=j08 j4j fun _=>j08 (hT _ _) fun _=>j08 (hW _) fun _=>j08 (j0y (by omega)) fun _=>j0r _
def jhk(s:List UInt8)(bys:List Lv):typeAt E s bys≠.error 22∧typeAt E s bys≠.error 0:=by
 unfold typeAt jcS;split
 ·constructor<;>intro e<;>cases e
 ·dsimp only;unfold jiY;split
  ·unfold atF;split
   ·constructor<;>intro e<;>cases e
   ·split<;>constructor<;>intro e<;>cases e
  ·constructor<;>intro e<;>cases e
def jnV(hW:∀t,Fine (W t))(hT:∀c t,Fine (T c t))(ctx:List Tm)(t:Tm):Fine (typB E W T ctx t):=by
 refine j08 j4j fun _=>?_
 split
 ·exact j08 (j0y (by omega)) fun _=>j1x _
 ·split
  ·exact j08 (j9G _) fun _=>j0r _
  ·split
   ·exact jt0 (jhk _ _)
   ·split
    ·exact j08 (hT _ _) fun _=>j08 (hW _) fun _=>j08 (j0y (by omega)) fun _=>j1x _
    ·split
     ·exact j08 (j2p _ _) fun _=>j08 (hT _ _) fun _=>j1x _
     ·split
      ·exact j08 (j3t hW hT _ _) fun _=>j08 (j2p _ _) fun _=>j08 (j3t hW hT _ _) fun _=>j08 (j9G _) fun _=>j0r _
      ·exact j08 (j1x _) fun _=>hT _ _
def j1E:∀(n:Nat) (ctx:List Tm) (t:Tm),Fine (typF E n ctx t)
 |0,_,_=>j8D
 |n+1,ctx,t=>jnV (j0I n) (j1E n) ctx t
variable{x:M (Option Tm)}
def j4d{l l':Int}{r:Except Int (Option Tm)}(h:j6i x l=some (r,l')):(∃a,x l=some (.ok a,l')∧r=.ok a)∨(∃e,(e=22∨e=15)∧x l=some (.error e,l')∧r=.error e)∨∃e,¬(e=22∨e=15)∧x l=some (.error e,l')∧r=.ok none:=by
 unfold j6i at h;split at h
 ·cases h
 ·rename_i a l1 hx;cases h;exact .inl ⟨a,hx,rfl⟩
 ·rename_i e l1 hx;split at h
  ·rename_i hb;cases h;exact .inr (.inl ⟨e,by simpa using hb,hx,rfl⟩)
  ·rename_i hb;cases h;exact .inr (.inr ⟨e,by simpa using hb,hx,rfl⟩)
def jlm(hx:Fine x):Fine (j6i x):=by
 refine⟨fun l r l' h0 h=>?_,fun l r l' k h0 hk h hr=>?_,fun l l' k h0 hk h=>?_,fun l l' h=>?_⟩
 ·rcases j4d h with⟨a,h1,-⟩|⟨e,-,h1,-⟩|⟨e,-,h1,-⟩<;>exact hx.dn l _ l' h0 h1
 ·rcases j4d h with⟨a,h1,rfl⟩|⟨e,he,h1,rfl⟩|⟨e,he,h1,rfl⟩
  ·have:=hx.more l _ l' k h0 hk h1 (by simp)
   simp only[j6i,this]
  ·have:=hx.more l _ l' k h0 hk h1 (fun e'=>hr e')
   simp only[j6i,this];have e15:e=15:=by
    rcases he with rfl|rfl
    ·exact absurd rfl hr
    ·rfl
   subst e15;rfl
  ·have:=hx.more l _ l' k h0 hk h1 (fun e'=>he (.inl (by cases e';rfl)))
   simp only[j6i,this];have:(decide (e=22)||decide (e=15))=false:=by simpa using he
   rw[this]
 ·rcases j4d h with⟨a,h1,h2⟩|⟨e,he,h1,h2⟩|⟨e,he,h1,h2⟩
  ·cases h2
  ·cases h2;obtain⟨a1,a2⟩:=hx.out l l' k h0 hk h1;refine⟨a1,fun r2 l2 h'=>?_⟩
   rcases j4d h' with⟨a,h1,-⟩|⟨e,-,h1,-⟩|⟨e,-,h1,-⟩<;>exact a2 _ _ h1
  ·cases h2
 ·rcases j4d h with⟨a,h1,h2⟩|⟨e,he,h1,h2⟩|⟨e,he,h1,h2⟩
  ·cases h2
  ·cases h2;exact hx.nz _ _ h1
  ·cases h2
def j6C(hW:∀t,Fine (W t))(hT:∀c t,Fine (T c t))(ctx:List Tm)(t:Tm):Fine (jc1 W T ctx t):=
 jlm (j08 j4j fun _=>j08 (hT _ _) fun _=>j08 (j3t hW hT _ _) fun _=>j0r _)
def jbv{S:Tm→Tm→M Bool}(h:∀a b,Fine (S a b)):∀(x y:List Tm),Fine (j7J S x y)
 |a::r,b::s=>j08 (h a b) fun q=>(match q with
  |true=>jbv h r s
  |false=>j0r _)
 |[],_=>j0r _
 |_::_,[]=>j0r _
def j5M(hS:∀c a b,Fine (S c a b))(ctx:List Tm)(a b:Tm):Fine (j4v S ctx a b):=by
 unfold j4v jhZ;split
 ·split
  ·exact jbv (hS _) _ _
  ·exact j0r _
 ·exact j0r _
def jjE(hS:∀c a b,Fine (S c a b))(ctx:List Tm)(a b:Tm):Fine (etaB S ctx a b):=j08 (j1x _) fun _=>j08 (j2p _ _) fun _=>j08 (j1x _) fun _=>hS _ _ _
def j9F(hS:∀c a b,Fine (S c a b))(ctx:List Tm)(a b:Tm):Fine (j4k S ctx a b):=by
 unfold j4k;split
 ·exact j0r _
 ·split
  ·refine j08 (hS _ _ _) fun q=>?_
   split
   ·exact j08 (j2p _ _) fun _=>hS _ _ _
   ·exact j0r _
  ·split
   ·exact jjE hS _ _ _
   ·split
    ·exact jjE hS _ _ _
    ·exact j5M hS _ _ _
def ji8(hW:∀t,Fine (W t))(hT:∀c t,Fine (T c t))(hS:∀c a b,Fine (S c a b))(ctx:List Tm)(a b:Tm):Fine (j2U W T S ctx a b):=by
 refine j08 (j6C hW hT _ _) fun p=>?_
 split
 ·exact j0r _
 ·refine j08 (j6C hW hT _ _) fun q=>?_
  split
  ·exact j0r _
  ·exact hS _ _ _
def jlp(hW:∀t,Fine (W t))(hT:∀c t,Fine (T c t))(hS:∀c a b,Fine (S c a b))(ctx:List Tm)(a b:Tm):Fine (jiM W T S ctx a b):=by
 refine j08 j4j fun _=>?_
 split
 ·exact j0r _
 ·refine j08 ?_ fun ok=>?_
  ·unfold j8L;split
   ·exact j5M hS _ _ _
   ·exact j0r _
  ·split
   ·exact j0r _
   ·refine j08 (hW _) fun _=>j08 (hW _) fun _=>j08 ?_ fun q=>?_
    ·unfold j3O;split
     ·exact j0r _
     ·exact j9F hS _ _ _
    ·split
     ·exact j0r _
     ·exact ji8 hW hT hS _ _ _
def j3s:∀(n:Nat) (ctx:List Tm) (a b:Tm),Fine (j2t E n ctx a b)
 |0,_,_,_=>j8D
 |n+1,ctx,a,b=>jlp (j0I n) (j1E n) (j3s n) ctx a b
end
open Go Go.Am Go.Gw
section
variable{E:Nv}{W W':Tm→M Tm}{T T':List Tm→Tm→M Tm}{S S':List Tm→Tm→Tm→M Bool}
def jeI(hW:∀t,Le (W t) (W' t))(hT:∀c t,Le (T c t) (T' c t))(ctx:List Tm)(t:Tm):Le (sortB W T ctx t) (sortB W' T' ctx t):=Le.bnd (Le.refl _) fun _=>Le.bnd (hT _ _) fun _=>Le.bnd (hW _) fun _=>Le.refl _
def jth(hW:∀t,Le (W t) (W' t))(hT:∀c t,Le (T c t) (T' c t))(ctx:List Tm)(t:Tm):Le (typB E W T ctx t) (typB E W' T' ctx t):=by
 refine Le.bnd (Le.refl _) fun _=>?_
 split
 ·exact Le.refl _
 ·split
  ·exact Le.refl _
  ·split
   ·exact Le.refl _
   ·split
    ·exact Le.bnd (hT _ _) fun _=>Le.bnd (hW _) fun _=>Le.refl _
    ·split
     ·exact Le.bnd (Le.refl _) fun _=>Le.bnd (hT _ _) fun _=>Le.refl _
     ·split
      ·exact Le.bnd (jeI hW hT _ _) fun _=>Le.bnd (Le.refl _) fun _=>Le.bnd (jeI hW hT _ _) fun _=>Le.refl _
      ·exact Le.bnd (Le.refl _) fun _=>hT _ _
def joz:∀(n:Nat) (ctx:List Tm) (t:Tm),Le (typF E n ctx t) (typF E (n+1) ctx t)
 |0,_,_=>fun _ _ _ h=>by cases h
 |n+1,ctx,t=>jth (fun t=>j6J (by omega) t) (joz n) ctx t
variable{m n:Nat}
def joy{α:Type}{x:Nat→M α}(h:∀n,Le (x n) (x (n+1)))(hA:n≤m):Le (x n) (x m):=by
 induction m with
 |zero=>
  obtain rfl:n=0:=by omega
  exact Le.refl _
 |succ m ih=>
  by_cases e:n=m+1
  ·subst e;exact Le.refl _
  ·exact fun l r l' h'=>h m _ _ _ (ih (by omega) _ _ _ h')
def jdv(h:n≤m)(ctx:List Tm)(t:Tm):Le (typF E n ctx t) (typF E m ctx t):=joy (x:=fun n=>typF E n ctx t) (fun n=>joz n ctx t) h
def jqI{x y:M (Option Tm)}(h:Le x y):Le (j6i x) (j6i y):=fun l r l' h'=>by
 rcases j4d h' with⟨a,h1,rfl⟩|⟨e,he,h1,rfl⟩|⟨e,he,h1,rfl⟩<;>have h2:=h _ _ _ h1<;>simp only[j6i,h2]
 ·have:(decide (e=22)||decide (e=15))=true:=by simpa using he
  rw[this]
 ·have:(decide (e=22)||decide (e=15))=false:=by simpa using he
  rw[this]
def jim(hW:∀t,Le (W t) (W' t))(hT:∀c t,Le (T c t) (T' c t))(ctx:List Tm)(t:Tm):Le (jc1 W T ctx t) (jc1 W' T' ctx t):=
 jqI (Le.bnd (Le.refl _) fun _=>Le.bnd (hT _ _) fun _=>Le.bnd (jeI hW hT _ _) fun _=>Le.refl _)
def jbF{S S':Tm→Tm→M Bool}(h:∀a b,Le (S a b) (S' a b)):∀(x y:List Tm),Le (j7J S x y) (j7J S' x y)
 |a::r,b::s=>Le.bnd (h a b) fun q=>(match q with
  |true=>jbF h r s
  |false=>Le.refl _)
 |[],_=>Le.refl _
 |_::_,[]=>Le.refl _
def jbH(hS:∀c a b,Le (S c a b) (S' c a b))(ctx:List Tm)(a b:Tm):Le (j4v S ctx a b) (j4v S' ctx a b):=by
 unfold j4v jhZ;split
 ·split
  ·exact jbF (hS _) _ _
  ·exact Le.refl _
 ·exact Le.refl _
def js4(hS:∀c a b,Le (S c a b) (S' c a b))(ctx:List Tm)(a b:Tm):Le (etaB S ctx a b) (etaB S' ctx a b):=Le.bnd (Le.refl _) fun _=>Le.bnd (Le.refl _) fun _=>Le.bnd (Le.refl _) fun _=>hS _ _ _
def jjW(hS:∀c a b,Le (S c a b) (S' c a b))(ctx:List Tm)(a b:Tm):Le (j4k S ctx a b) (j4k S' ctx a b):=by
 unfold j4k;split
 ·exact Le.refl _
 ·split
  ·refine Le.bnd (hS _ _ _) fun q=>?_
   split
   ·exact Le.bnd (Le.refl _) fun _=>hS _ _ _
   ·exact Le.refl _
  ·split
   ·exact js4 hS _ _ _
   ·split
    ·exact js4 hS _ _ _
    ·exact jbH hS _ _ _
def jgC(hW:∀t,Le (W t) (W' t))(hT:∀c t,Le (T c t) (T' c t))(hS:∀c a b,Le (S c a b) (S' c a b))(ctx:List Tm)(a b:Tm):Le (j2U W T S ctx a b) (j2U W' T' S' ctx a b):=by
 refine Le.bnd (jim hW hT _ _) fun p=>?_
 split
 ·exact Le.refl _
 ·refine Le.bnd (jim hW hT _ _) fun q=>?_
  split
  ·exact Le.refl _
  ·exact hS _ _ _
def jqK(hW:∀t,Le (W t) (W' t))(hT:∀c t,Le (T c t) (T' c t))(hS:∀c a b,Le (S c a b) (S' c a b))(ctx:List Tm)(a b:Tm):Le (jiM W T S ctx a b) (jiM W' T' S' ctx a b):=by
 refine Le.bnd (Le.refl _) fun _=>?_
 split
 ·exact Le.refl _
 ·refine Le.bnd ?_ fun ok=>?_
  ·unfold j8L;split
   ·exact jbH hS _ _ _
   ·exact Le.refl _
  ·split
   ·exact Le.refl _
   ·refine Le.bnd (hW _) fun _=>Le.bnd (hW _) fun _=>Le.bnd ?_ fun q=>?_
    ·unfold j3O;split
     ·exact Le.refl _
     ·exact jjW hS _ _ _
    ·split
     ·exact Le.refl _
     ·exact jgC hW hT hS _ _ _
def jjZ:∀(n:Nat) (ctx:List Tm) (a b:Tm),Le (j2t E n ctx a b) (j2t E (n+1) ctx a b)
 |0,_,_,_=>fun _ _ _ h=>by cases h
 |n+1,ctx,a,b=>jqK (fun t=>j6J (by omega) t) (fun c t=>jdv (by omega) c t) (jjZ n) ctx a b
def jbG(h:n≤m)(ctx:List Tm)(a b:Tm):Le (j2t E n ctx a b) (j2t E m ctx a b):=joy (x:=fun n=>j2t E n ctx a b) (fun n=>jjZ n ctx a b) h
end
def Mono{α:Type}(x:Nat→M α):Prop:=∀n m,n≤m→Le (x n) (x m)
def Tot{α:Type}(x:Nat→M α)(l:Int):Prop:=∃n r l',x n l=some (r,l')
section
variable{α β:Type}{l:Int}
def Tot.const{x:M α}(h:∃r l',x l=some (r,l')):Tot (fun _=>x) l:=⟨0,h⟩
def j9b(a:α):Tot (fun _=>mok a) l:=⟨0,_,_,rfl⟩
def Tot.bnd{x:Nat→M α}{f:Nat→α→M β}(hx:Tot x l)(mx:Mono x)(hf:∀n a l1,x n l=some (.ok a,l1)→Tot (fun n=>f n a) l1)(mf:∀a,Mono fun n=>f n a):Tot (fun n=>Go.Proofs.YtbnodhcijeaceaaGreatDoor.bnd (x n) (f n)) l:=by
 obtain⟨n,r,l',h⟩:=hx;cases r with
 |error e=>exact⟨n,.error e,l',by simp only[Go.Proofs.YtbnodhcijeaceaaGreatDoor.bnd,h]⟩
 |ok a=>
  obtain⟨m,r2,l2,h2⟩:=hf n a l' h;have h3:=mx n (max n m) (by omega) _ _ _ h
  have h4:=mf a m (max n m) (by omega) _ _ _ h2
  exact⟨max n m,r2,l2,by simp only[Go.Proofs.YtbnodhcijeaceaaGreatDoor.bnd,h3,h4]⟩
def Tot.pre{x:M α}{f:Nat→α→M β}(hx:∃r l',x l=some (r,l'))(hf:∀a l1,x l=some (.ok a,l1)→Tot (fun n=>f n a) l1):Tot (fun n=>Go.Proofs.YtbnodhcijeaceaaGreatDoor.bnd x (f n)) l:=by
 obtain⟨r,l',h⟩:=hx;cases r with
 |error e=>exact⟨0,.error e,l',by simp only[Go.Proofs.YtbnodhcijeaceaaGreatDoor.bnd,h]⟩
 |ok a=>
  obtain⟨m,r2,l2,h2⟩:=hf a l' h;exact⟨m,r2,l2,by simp only[Go.Proofs.YtbnodhcijeaceaaGreatDoor.bnd,h,h2]⟩
def Tot.succ{x:Nat→M α}{y:Nat→M α}(e:∀n,x (n+1)=y n)(h:Tot y l):Tot x l:=by
 obtain⟨n,r,l',h⟩:=h;exact⟨n+1,r,l',by rw[e];exact h⟩
def j1t(b:Bool)(e:Int)(l:Int):∃r l',j3w b e l=some (r,l'):=by cases b<;>exact⟨_,_,rfl⟩
def jp2(o:Option α)(e:Int)(l:Int):∃r l',optF o e l=some (r,l'):=by cases o<;>exact⟨_,_,rfl⟩
def jkz(l:Int):∃r l',j6c l=some (r,l'):=by
 unfold j6c;split<;>exact⟨_,_,rfl⟩
def j3I{x:M α}{f:α→M β}(hx:∃r l',x l=some (r,l'))(hf:∀a l,∃r l',f a l=some (r,l')):∃r l',bnd x f l=some (r,l'):=by
 obtain⟨r,l',h⟩:=hx;cases r with
 |error e=>exact⟨.error e,l',by simp only[bnd,h]⟩
 |ok a=>
  obtain⟨r2,l2,h2⟩:=hf a l';exact⟨r2,l2,by simp only[bnd,h,h2]⟩
def j3Q(o:Option Tm)(l:Int):∃r l',j4W o l=some (r,l'):=j3I (jp2 _ _ _) fun _ _=>j3I (j1t _ _ _) fun _ _=>⟨_,_,rfl⟩
def jce(o:Lv)(l:Int):∃r l',j6Z o l=some (r,l'):=j3I (j1t _ _ _) fun _ _=>⟨_,_,rfl⟩
def j9l(ctx:List Tm)(t:Tm)(l:Int):∃r l',j9k ctx t l=some (r,l'):=j3I (j1t _ _ _) fun _ _=>⟨_,_,rfl⟩
def jqQ(o:Option Tm)(l:Int):∃r l',j8a o l=some (r,l'):=j3I (jkz _) fun _ _=>j3I (jp2 _ _ _) fun _ _=>j3I (j1t _ _ _) fun _ _=>⟨_,_,rfl⟩
end
def jgh{E:Nv}(hE:NvOk E){s:List UInt8}{e:En}(h:j0E E s=some e):j1y e=true:=by
 unfold j0E at h;split at h
 ·cases h
 ·exact hE.right e (AE h)
def j5p{e:En}(h:j1y e=true)(hk:e.kind=6∨e.kind=7):(0≤e.fixd∧e.fixd≤32)∧(0≤e.idx∧e.idx≤32)∧(0≤e.flds∧e.flds≤32):=by
 simp only[j1y,AB] at h;have h1:=h.2.2.2.2.2.1;unfold j3y j3D at h1;rw[if_pos hk] at h1;simp only[AB,decide_eq_true_eq] at h1;exact⟨h1.2.2.1,h1.2.2.2.1,h1.2.2.2.2⟩
section
variable{E:Nv}
variable{l q:Int}{t:Tm}{α β:Type}
def jqp(hE:NvOk E)(h:∀a,sizT a<sizT t→Tot (fun n=>j7X E n a) l):Tot (fun n=>jax E (j7X E n) t) l:=by
 unfold jax jnS
 by_cases c1:(spF t).1.kind=5∧¬(j1i t).length=0
 ·simp only[if_pos c1];exact j9b _
 simp only[if_neg c1]
 by_cases c2:(spF t).1.kind=7
 ·simp only[if_pos c2];exact j9b _
 simp only[if_neg c2]
 by_cases c3:(spF t).1.kind=3
 ·simp only[if_pos c3];unfold j2o;cases he:j0E E (spF t).1.name with
  |none=>exact j9b _
  |some e=>
   dsimp only
   by_cases c4:¬((spF t).1.levels.length:Int)=e.pars
   ·simp only[if_pos c4];exact j9b _
   simp only[if_neg c4]
   by_cases c5:e.kind=2
   ·simp only[if_pos c5];exact j9b _
   simp only[if_neg c5]
   by_cases c6:e.kind=7
   ·simp only[if_pos c6];unfold jik
    by_cases c7:((j1i t).length:Int)≤j4X e+e.idx
    ·simp only[if_pos c7];exact j9b _
    ·simp only[if_neg c7];have hn:=j5p (jgh hE he) (.inr c6);have hq:(j4X e+e.idx).toNat<(j1i t).length:=by
      unfold j4X at c7⊢;omega
     refine Tot.bnd (h _ ((ja1 t).2 _ (j3o.1 ?_))) (fun _ _ h=>jeG h _) (fun n a l1 _=>?_) (fun a n m _=>Le.refl _)
     ·rw[AQ,AA hq];exact DH hq
     ·refine⟨0,?_⟩;dsimp only;cases jbh E a e.ctors<;>exact⟨_,_,rfl⟩
   ·simp only[if_neg c6];exact j9b _
 ·simp only[if_neg c3];exact j9b _
def jtm{o:Option Tm}{x:Tm}{l':Int}(h:j8a o l=some (.ok x,l')):1≤l∧l'=l-1∧o=some x∧j0A x≤2000:=by
 unfold j8a at h;rcases j0b h with⟨e,h1,h2⟩|⟨a,l1,h1,h2⟩
 ·cases h2
 rcases j1l h1 with⟨a1,a2,a3⟩|⟨a1,a2,a3⟩
 ·rcases j0b h2 with⟨e,b1,b2⟩|⟨y,l2,b1,b2⟩
  ·cases b2
  rcases j0b b2 with⟨e,c1,c2⟩|⟨u,l3,c1,c2⟩
  ·cases c2
  cases o with
  |none=>cases b1
  |some z=>
   cases b1;obtain⟨d1,d2⟩:=j1k c1;cases c2;rcases d2 with⟨d2,-⟩|⟨-,d2⟩
   ·exact⟨a1,by omega,rfl,of_decide_eq_true d2⟩
   ·cases d2
 ·cases a3
def j3x(h:j0A t≤2000):sizT t≤2000:=by rw[j2r] at h;omega
def jqv(hE:NvOk E):∀(q s:Nat) (t:Tm) (l:Int),0≤l→l=q→sizT t=s→sizT t≤2000→Tot (fun n=>j7X E n t) l:=by
 intro q
 induction q using Nat.strongRecOn with
 |_ q ihq=>
 intro s
 induction s using Nat.strongRecOn with
 |_ s ihs=>
 intro t l h0 hl hs h2;refine Tot.succ (fun n=>jdn E n t) ?_
 have hf:Tot (fun n=>jax E (j7X E n) t) l:=jqp hE fun a ha=>ihs (sizT a) (by omega) a l h0 hl rfl (by omega)
 refine Tot.bnd hf (fun n m h=>jow (fun a=>jeG h a) t) (fun n r l1 hr=>?_) (fun r n m h=>?_)
 ·have hd:=(j8C (j6B n) t).dn l _ l1 h0 hr;match r with
  |none=>exact j9b _
  |some (k,o)=>
   refine Tot.pre (jqQ o l1) fun x l2 hx=>?_
   obtain⟨a1,a2,a3,a4⟩:=jtm hx;exact ihq l2.toNat (by omega) (sizT x) x l2 (by omega) (by omega) rfl (j3x a4)
 ·match r with
  |none=>exact Le.refl _
  |some (k,o)=>exact Le.bnd (Le.refl _) fun x=>jeG h x
def TotU{α:Type}(x:Nat→M α)(q:Int):Prop:=∀l,0≤l→l≤q→Tot x l
def TotU.bnd{x:Nat→M α}{f:Nat→α→M β}(hx:TotU x q)(fx:∀n,Fine (x n))(mx:Mono x)(hf:∀a,TotU (fun n=>f n a) q)(mf:∀a,Mono fun n=>f n a):TotU (fun n=>Go.Proofs.YtbnodhcijeaceaaGreatDoor.bnd (x n) (f n)) q:=fun l h0 h1=>
 Tot.bnd (hx l h0 h1) mx (fun n a l1 h=>by
  have:=(fx n).dn l _ l1 h0 h;exact hf a l1 this.1 (by omega)) mf
def TotU.pre{x:M α}{f:Nat→α→M β}(hx:∀l,∃r l',x l=some (r,l'))(fx:Fine x)(hf:∀a,TotU (fun n=>f n a) q):TotU (fun n=>Go.Proofs.YtbnodhcijeaceaaGreatDoor.bnd x (f n)) q:=fun l h0 h1=>
 Tot.pre (hx l) fun a l1 h=>by
  have:=fx.dn l _ l1 h0 h;exact hf a l1 this.1 (by omega)
def TotU.tick{f:Nat→M β}(hf:TotU f (q-1)):TotU (fun n=>Go.Proofs.YtbnodhcijeaceaaGreatDoor.bnd j6c fun _=>f n) q:=fun l h0 h1=>
 Tot.pre (jkz l) fun a l1 h=>by
  rcases j1l h with⟨a1,a2,a3⟩|⟨a1,a2,a3⟩
  ·exact hf l1 (by omega) (by omega)
  ·cases a3
def j2z{x:M α}(hx:∀l,∃r l',x l=some (r,l')):TotU (fun _=>x) q:=fun l _ _=>⟨0,hx l⟩
def j1M(a:α):TotU (fun _=>mok a) q:=j2z fun _=>⟨_,_,rfl⟩
def j7C(hE:NvOk E)(q:Int)(t:Tm):TotU (fun n=>j3M E n t) q:=fun l h0 _=>Tot.pre (j1t _ _ l) fun a l1 h=>by
 obtain⟨h1,h2⟩:=j1k h;rcases h2 with⟨h2,-⟩|⟨-,h2⟩
 ·subst h1;have hp:j0s t 4 1099511627776=true:=by
   unfold jbY at h2;rw[AB] at h2;exact h2.1
  exact jqv hE l1.toNat _ t l1 h0 (by omega) rfl (j3x (j3A hp).2.2.1)
 ·cases h2
def j1K(t:Tm):Mono fun n=>j3M E n t:=fun _ _ h=>j6J h t
def jaP(c:List Tm)(t:Tm):Mono fun n=>typF E n c t:=fun _ _ h=>jdv h c t
def j6M(c:List Tm)(a b:Tm):Mono fun n=>j2t E n c a b:=fun _ _ h=>jbG h c a b
def j1b(x:M α):Mono fun _=>x:=fun _ _ _=>Le.refl _
def j6N(c:List Tm)(t:Tm):Mono fun n=>sortB (j3M E n) (typF E n) c t:=fun _ _ h=>jeI (fun t=>j6J h t) (fun c t=>jdv h c t) c t
def jbR(c:List Tm)(t:Tm):Mono fun n=>jc1 (j3M E n) (typF E n) c t:=fun _ _ h=>jim (fun t=>j6J h t) (fun c t=>jdv h c t) c t
def j1Q{x:Nat→M α}{f:Nat→α→M β}(mx:Mono x)(mf:∀a,Mono fun n=>f n a):Mono fun n=>bnd (x n) (f n):=fun n m h=>Le.bnd (mx n m h) fun a=>mf a n m h
def jkt(hE:NvOk E)(hT:∀c t,TotU (fun n=>typF E n c t) (q-1))(c:List Tm)(t:Tm):TotU (fun n=>sortB (j3M E n) (typF E n) c t) q:=
 TotU.tick (TotU.bnd (hT c t) (fun n=>j1E n c t) (jaP c t) (fun x=>TotU.bnd (j7C hE _ x) (fun n=>j0I n x) (j1K x) (fun s=>TotU.pre (fun l=>j1t _ _ l) (j0y (by omega)) fun _=>j1M _) (fun s=>j1b _)) (fun x=>j1Q (j1K x) fun s=>j1b _))
def jtE(hE:NvOk E):∀(q:Nat) (c:List Tm) (t:Tm),TotU (fun n=>typF E n c t) q:=by
 intro q
 induction q using Nat.strongRecOn with
 |_ q ih=>
 intro c t l h0 h1;refine Tot.succ (fun n=>jpH E n c t) ?_
 refine TotU.tick (q:=q) ?_ l h0 h1
 intro l h0 h1;have hT:∀c t,TotU (fun n=>typF E n c t) ((q:Int)-1):=fun c t=>by
  have:=ih (q-1) (by omega) c t
  rwa [show((q-1:Nat):Int)=(q:Int)-1 by omega] at this
 have hA:∀c t,TotU (fun n=>typF E n c t) ((q:Int)-1-1):=fun c t l h0 h1=>hT c t l h0 (by omega)
 have hS:=fun c t=>jkt hE hA c t
 revert l
 show TotU _ _
 by_cases c1:t.kind=1
 ·simp only[if_pos c1];exact j2z fun l=>j3I (j1t _ _ _) fun _ _=>j3Q _ _
 simp only[if_neg c1]
 by_cases c2:t.kind=2
 ·simp only[if_pos c2];exact j2z fun l=>j3I (jce _ _) fun _ _=>⟨_,_,rfl⟩
 simp only[if_neg c2]
 by_cases c3:t.kind=3
 ·simp only[if_pos c3];exact j2z fun l=>⟨_,_,rfl⟩
 simp only[if_neg c3]
 by_cases c4:t.kind=4
 ·simp only[if_pos c4];exact TotU.bnd (hT c _) (fun n=>j1E n c _) (jaP c _) (fun y=>TotU.bnd (j7C hE _ y) (fun n=>j0I n y) (j1K y) (fun f=>j2z fun l=>j3I (j1t _ _ _) fun _ _=>j3Q _ _) (fun f=>j1b _)) (fun y=>j1Q (j1K y) fun f=>j1b _)
 simp only[if_neg c4]
 by_cases c5:t.kind=5
 ·simp only[if_pos c5];exact TotU.pre (fun l=>j9l _ _ l) (j2p _ _) fun c2=>TotU.bnd (hT c2 _) (fun n=>j1E n c2 _) (jaP c2 _) (fun b=>j2z fun l=>j3Q _ _) (fun b=>j1b _)
 simp only[if_neg c5]
 by_cases c6:t.kind=6
 ·simp only[if_pos c6];refine TotU.bnd (hS c _) (fun n=>j3t (j0I n) (j1E n) c _) (j6N c _) (fun a=>TotU.pre (fun l=>j9l _ _ l) (j2p _ _) fun c2=>TotU.bnd (hS c2 _) (fun n=>j3t (j0I n) (j1E n) c2 _) (j6N c2 _) (fun m=>j2z fun l=>j3I (jce _ _) fun _ _=>⟨_,_,rfl⟩) (fun m=>j1b _)) (fun a=>j1Q (j1b _) fun c2=>j1Q (j6N c2 _) fun m=>j1b _)
 simp only[if_neg c6];exact TotU.pre (fun l=>j3Q _ l) (j1x _) fun x=>hT c x
def jnl{x:Nat→M (Option Tm)}(h:TotU x q):TotU (fun n=>j6i (x n)) q:=fun l h0 h1=>by
 obtain⟨n,r,l',hx⟩:=h l h0 h1;refine⟨n,?_⟩;simp only[j6i,hx];cases r with
 |ok a=>exact⟨_,_,rfl⟩
 |error e=>
  dsimp only;split<;>exact⟨_,_,rfl⟩
def jr9(hE:NvOk E)(hT:∀c t,TotU (fun n=>typF E n c t) (q-1))(c:List Tm)(t:Tm):TotU (fun n=>jc1 (j3M E n) (typF E n) c t) q:=
 jnl (TotU.tick (TotU.bnd (hT c t) (fun n=>j1E n c t) (jaP c t) (fun ty=>TotU.bnd (jkt hE (fun c t l h0 h1=>hT c t l h0 (by omega)) c ty) (fun n=>j3t (j0I n) (j1E n) c ty) (j6N c ty) (fun s=>j1M _) (fun s=>j1b _)) (fun ty=>j1Q (j6N c ty) fun s=>j1b _)))
def jkD(hE:NvOk E)(q:Int)(c:List Tm)(t:Tm):TotU (fun n=>typF E n c t) q:=fun l h0 h1=>jtE hE q.toNat c t l h0 (by omega)
def jdh{S:Nat→Tm→Tm→M Bool}{q:Int}(h:∀a b,TotU (fun n=>S n a b) q)(f:∀n a b,Fine (S n a b))(m:∀a b,Mono fun n=>S n a b):∀(x y:List Tm),TotU (fun n=>j7J (S n) x y) q
 |a::r,b::s=>TotU.bnd (h a b) (fun n=>f n a b) (m a b) (fun p=>(match p with
  |true=>jdh h f m r s
  |false=>j1M _)) (fun p=>(match p with
  |true=>fun _ _ hA=>jbF (fun a b=>m a b _ _ hA) r s
  |false=>j1b _))
 |[],_=>j1M _
 |_::_,[]=>j1M _
def jdP(hS:∀c a b,TotU (fun n=>j2t E n c a b) q)(c:List Tm)(a b:Tm):TotU (fun n=>j4v (j2t E n) c a b) q:=by
 unfold j4v jhZ;cases ja9 (spF a).1 (spF b).1 with
 |false=>exact j1M _
 |true=>
  dsimp only;cases decide ((j1i a).length=(j1i b).length) with
  |false=>exact j1M _
  |true=>exact jdh (hS c) (fun n a b=>j3s n c a b) (j6M c) _ _
def jnQ(hS:∀c a b,TotU (fun n=>j2t E n c a b) q)(c:List Tm)(a b:Tm):TotU (fun n=>etaB (j2t E n) c a b) q:=
 TotU.pre (fun l=>j3Q _ l) (j1x _) fun up=>TotU.pre (fun l=>j9l _ _ l) (j2p _ _) fun c2=>TotU.pre (fun l=>j3Q _ l) (j1x _) fun u=>hS _ _ _
def jnY(hS:∀c a b,TotU (fun n=>j2t E n c a b) q)(c:List Tm)(a b:Tm):TotU (fun n=>j4k (j2t E n) c a b) q:=by
 unfold j4k
 by_cases c1:a.kind=2∧b.kind=2
 ·simp only[if_pos c1];exact j1M _
 simp only[if_neg c1]
 by_cases c2:a.kind=b.kind∧(a.kind=6∨a.kind=5)
 ·simp only[if_pos c2];refine TotU.bnd (hS _ _ _) (fun n=>j3s n _ _ _) (j6M _ _ _) (fun p=>?_) (fun p=>?_)
  ·cases p with
   |true=>exact TotU.pre (fun l=>j9l _ _ l) (j2p _ _) fun c2=>hS _ _ _
   |false=>exact j1M _
  ·cases p with
   |true=>exact j1Q (j1b _) fun c2=>j6M _ _ _
   |false=>exact j1b _
 simp only[if_neg c2]
 by_cases c3:a.kind=5
 ·simp only[if_pos c3];exact jnQ hS _ _ _
 simp only[if_neg c3]
 by_cases c4:b.kind=5
 ·simp only[if_pos c4];exact jnQ hS _ _ _
 simp only[if_neg c4];exact jdP hS _ _ _
def jiw(c:List Tm)(a b:Tm):Mono fun n=>j2U (j3M E n) (typF E n) (j2t E n) c a b:=fun _ _ h=>jgC (fun t=>j6J h t) (fun c t=>jdv h c t) (fun c a b=>jbG h c a b) c a b
def jlZ(hE:NvOk E)(hS:∀c a b,TotU (fun n=>j2t E n c a b) q)(c:List Tm)(a b:Tm):TotU (fun n=>j2U (j3M E n) (typF E n) (j2t E n) c a b) q:=by
 have hp:=fun c t=>jr9 hE (q:=q) (jkD hE _) c t
 refine TotU.bnd (hp c a) (fun n=>j6C (j0I n) (j1E n) c a) (jbR c a) (fun p=>?_) (fun p=>?_)
 ·cases p with
  |none=>exact j1M _
  |some p=>
   refine TotU.bnd (hp c b) (fun n=>j6C (j0I n) (j1E n) c b) (jbR c b) (fun r=>?_) (fun r=>?_)
   ·cases r with
    |none=>exact j1M _
    |some r=>exact hS _ _ _
   ·cases r with
    |none=>exact j1b _
    |some r=>exact j6M _ _ _
 ·cases p with
  |none=>exact j1b _
  |some p=>exact j1Q (jbR c b) fun r=>(match r with
   |none=>j1b _
   |some r=>j6M _ _ _)
def jrq(hE:NvOk E):∀(q:Nat) (c:List Tm) (a b:Tm),TotU (fun n=>j2t E n c a b) q:=by
 intro q
 induction q using Nat.strongRecOn with
 |_ q ih=>
 intro c a b l h0 h1;refine Tot.succ (fun n=>jmi E n c a b) ?_
 refine TotU.tick (q:=q) ?_ l h0 h1
 intro l h0 h1;have hS:∀c a b,TotU (fun n=>j2t E n c a b) ((q:Int)-1):=fun c a b=>by
  have:=ih (q-1) (by omega) c a b
  rwa [show((q-1:Nat):Int)=(q:Int)-1 by omega] at this
 revert l
 show TotU _ _
 cases eqTm a b with
 |true=>exact j1M _
 |false=>
  dsimp only;have hl:TotU (fun n=>j8L (j2t E n) c a b) ((q:Int)-1):=by
   unfold j8L;cases j4O a b with
   |true=>exact jdP hS _ _ _
   |false=>exact j1M _
  have wA:Mono fun n=>j8L (j2t E n) c a b:=by
   unfold j8L;cases j4O a b with
   |true=>exact fun _ _ h=>jbH (fun c a b=>jbG h c a b) c a b
   |false=>exact j1b _
  have hB:∀n,Fine (j8L (j2t E n) c a b):=fun n=>by
   unfold j8L;cases j4O a b with
   |true=>exact j5M (j3s n) _ _ _
   |false=>exact j0r _
  have qA:∀x y,TotU (fun n=>j3O (j2t E n) c a b x y) ((q:Int)-1):=fun x y=>by
   unfold j3O;cases j4O a b&&(eqTm a x&&eqTm b y) with
   |true=>exact j1M _
   |false=>exact jnY hS _ _ _
  have hA:∀x y,Mono fun n=>j3O (j2t E n) c a b x y:=fun x y=>by
   unfold j3O;cases j4O a b&&(eqTm a x&&eqTm b y) with
   |true=>exact j1b _
   |false=>exact fun _ _ h=>jjW (fun c a b=>jbG h c a b) c _ _
  have gA:∀n x y,Fine (j3O (j2t E n) c a b x y):=fun n x y=>by
   unfold j3O;cases j4O a b&&(eqTm a x&&eqTm b y) with
   |true=>exact j0r _
   |false=>exact j9F (j3s n) _ _ _
  have mq:∀(x y:Tm) (p:Bool),Mono fun n=>(match p with
   |true=>mok true
   |false=>j2U (j3M E n) (typF E n) (j2t E n) c x y:M Bool):=fun x y p=>by
   cases p with
   |true=>exact j1b _
   |false=>exact jiw _ _ _
  have my:∀x y:Tm,Mono fun n=>bnd (j3O (j2t E n) c a b x y) fun p=>(match p with
   |true=>mok true
   |false=>j2U (j3M E n) (typF E n) (j2t E n) c x y:M Bool):=fun x y=>j1Q (hA x y) (mq x y)
  refine TotU.bnd hl hB wA (fun ok=>?_) (fun ok=>?_)
  ·cases ok with
   |true=>exact j1M _
   |false=>
    refine TotU.bnd (j7C hE _ a) (fun n=>j0I n a) (j1K a) (fun x=>?_) (fun x=>j1Q (j1K b) fun y=>my x y)
    refine TotU.bnd (j7C hE _ b) (fun n=>j0I n b) (j1K b) (fun y=>?_) (fun y=>my x y)
    refine TotU.bnd (qA x y) (fun n=>gA n x y) (hA x y) (fun p=>?_) (mq x y)
    cases p with
    |true=>exact j1M _
    |false=>exact jlZ hE hS _ _ _
  ·cases ok with
   |true=>exact j1b _
   |false=>exact j1Q (j1K a) fun x=>j1Q (j1K b) fun y=>my x y
end

/- Which terms are one, and what a term's type is, as plain functions by ticks. -/
import Derived.Test.YtbnodhcijeaceaaGreatDoorZKp
set_option linter.all false
set_option maxHeartbeats 1000000
set_option maxRecDepth 100000
namespace Go.Proofs.YtbnodhcijeaceaaGreatDoor
open Go Go.Am Go.Gw
def j4C(o:Option Tm):M Tm:=bnd (optF o 15) fun x=>bnd (j3h (decide (j0v x≤2000)) 15) fun _=>mok x
def j6B(l:Lv):M Lv:=bnd (j3h (j0x l 4) 15) fun _=>mok l
def j8M(ctx:List Tm)(t:Tm):M (List Tm):=bnd (j3h (decide (ctx.length<64)) 15) fun _=>mok (ctx++[t])
section
variable(E:Nv)(W:Tm→M Tm)(T:List Tm→Tm→M Tm)
def sortB(ctx:List Tm)(t:Tm):M Lv:=bnd j5G fun _=>bnd (T ctx t) fun x=>bnd (W x) fun s=>bnd (j3h (decide (s.kind=2)) 19) fun _=>mok s.lv
def typB(ctx:List Tm)(t:Tm):M Tm:=bnd j5G fun _=>
 if t.kind=1 then bnd (j3h (decide (t.num<ctx.length)) 10) fun _=>j4C (j7c (ctx.getD ((ctx.length:Int)-1-t.num).toNat tz) (t.num+1) 0)
 else if t.kind=2 then bnd (j6B (jih t.lv)) fun l=>mok (jeW l)
 else if t.kind=3 then exF (typeAt E t.name t.levels)
 else if t.kind=4 then bnd (T ctx (t.arg 0)) fun y=>bnd (W y) fun f=>bnd (j3h (decide (f.kind=6)) 20) fun _=>j4C (InstF (f.arg 1) [t.arg 1])
 else if t.kind=5 then bnd (j8M ctx (t.arg 0)) fun c2=>bnd (T c2 (t.arg 1)) fun b=>j4C (some (overR 6 [t.arg 0] b))
 else if t.kind=6 then bnd (sortB W T ctx (t.arg 0)) fun l=>bnd (j8M ctx (t.arg 0)) fun c2=>bnd (sortB W T c2 (t.arg 1)) fun m=>bnd (j6B (j8S l m)) fun x=>mok (jeW x)
 else bnd (j4C (InstF (t.arg 2) [t.arg 1])) fun x=>T ctx x
def jrz(ctx:List Tm)(t:Tm):M (Option Tm):=bnd j5G fun _=>bnd (T ctx t) fun ty=>bnd (sortB W T ctx ty) fun s=>mok (match jc7 s with
 |true=>some ty
 |false=>none)
def j5L(x:M (Option Tm)):M (Option Tm):=fun l=>match x l with
 |none=>none
 |some (.ok a,l')=>some (.ok a,l')
 |some (.error e,l')=>match decide (e=22)||decide (e=15) with
  |true=>some (.error e,l')
  |false=>some (.ok none,l')
def jby(ctx:List Tm)(t:Tm):M (Option Tm):=j5L (jrz W T ctx t)
end
noncomputable def typF(E:Nv)(n:Nat):List Tm→Tm→M Tm:=Nat.rec (motive:=fun _=>List Tm→Tm→M Tm) (fun _ _ _=>none) (fun m T ctx t=>typB E (j3w E m) T ctx t) n
theorem jgV(E:Nv)(n:Nat)(ctx:List Tm)(t:Tm):typF E (n+1) ctx t=typB E (j3w E n) (typF E n) ctx t:=rfl
def j1Z:List Lv→List Lv→Bool
 |[],[]=>true
 |l::r,m::s=>j9V l m&&j1Z r s
 |_,_=>false
def j9F(a b:Tm):Bool:=decide (a.kind=b.kind)&&((decide (a.kind=1)&&decide (a.num=b.num))||(decide (a.kind=3)&&(a.name == b.name&&j1Z a.levels b.levels)))
def j7h(S:Tm→Tm→M Bool):List Tm→List Tm→M Bool
 |a::r,b::s=>bnd (S a b) fun q=>match q with
  |true=>j7h S r s
  |false=>mok false
 |_,_=>mok true
def jhy(S:Tm→Tm→M Bool)(x y:List Tm):M Bool:=match decide (x.length=y.length) with
 |true=>j7h S x y
 |false=>mok false
section
variable(W:Tm→M Tm)(T:List Tm→Tm→M Tm)(S:List Tm→Tm→Tm→M Bool)
def j4c(ctx:List Tm)(a b:Tm):M Bool:=match j9F (spF a).1 (spF b).1 with
 |true=>jhy (S ctx) (j1c a) (j1c b)
 |false=>mok false
def etaB(ctx:List Tm)(f t:Tm):M Bool:=bnd (j4C (j7c t 1 0)) fun up=>bnd (j8M ctx (f.arg 0)) fun c2=>bnd (j4C (some (appF up [.mk 1 0 [] [] []]))) fun u=>S c2 (f.arg 1) u
def j3S(ctx:List Tm)(a b:Tm):M Bool:=
 if a.kind=2∧b.kind=2 then mok (j9V a.lv b.lv)
 else if a.kind=b.kind∧(a.kind=6∨a.kind=5) then bnd (S ctx (a.arg 0) (b.arg 0)) fun q=>match q with
  |true=>bnd (j8M ctx (a.arg 0)) fun c2=>S c2 (a.arg 1) (b.arg 1)
  |false=>mok false
 else if a.kind=5 then etaB S ctx a b else if b.kind=5 then etaB S ctx b a else j4c S ctx a b
def j2C(ctx:List Tm)(a b:Tm):M Bool:=bnd (jby W T ctx a) fun p=>match p with
 |none=>mok false
 |some p=>bnd (jby W T ctx b) fun q=>match q with
  |none=>mok false
  |some q=>S ctx p q
def j4v(a b:Tm):Bool:=decide ((spF a).1.kind=3)&&(decide (0<(j1c a).length)&&(decide ((j1c a).length=(j1c b).length)&&j9F (spF a).1 (spF b).1))
def j8k(ctx:List Tm)(a b:Tm):M Bool:=match j4v a b with
 |true=>j4c S ctx a b
 |false=>mok false
def j3y(ctx:List Tm)(a b x y:Tm):M Bool:=match j4v a b&&(eqTm a x&&eqTm b y) with
 |true=>mok false
 |false=>j3S S ctx x y
def jic(ctx:List Tm)(a b:Tm):M Bool:=bnd j5G fun _=>match eqTm a b with
 |true=>mok true
 |false=>bnd (j8k S ctx a b) fun ok=>match ok with
  |true=>mok true
  |false=>bnd (W a) fun x=>bnd (W b) fun y=>bnd (j3y S ctx a b x y) fun q=>match q with
   |true=>mok true
   |false=>j2C W T S ctx x y
end
noncomputable def j2h(E:Nv)(n:Nat):List Tm→Tm→Tm→M Bool:=Nat.rec (motive:=fun _=>List Tm→Tm→Tm→M Bool) (fun _ _ _ _=>none) (fun m S ctx a b=>jic (j3w E m) (typF E m) S ctx a b) n
theorem jlE(E:Nv)(n:Nat)(ctx:List Tm)(a b:Tm):j2h E (n+1) ctx a b=jic (j3w E n) (typF E n) (j2h E n) ctx a b:=rfl
def ctxF:List Tm→Int→Bool
 |[],_=>true
 |t::r,i=>j0w t 4 i&&ctxF r (i+1)
def j1A(ctx:List Tm)(ts:List Tm):Bool:=decide (ctx.length≤64)&&(ctxF ctx 0&&ts.all fun t=>j0w t 4 ctx.length)
noncomputable def j9G(E:Nv)(n:Nat)(ctx:List Tm)(t:Tm):M Tm:=bnd (j3h (j1A ctx [t]) 10) fun _=>typF E n ctx t
noncomputable def j7T(E:Nv)(n:Nat)(ctx:List Tm)(a b:Tm):M Bool:=bnd (j3h (j1A ctx [a,b]) 10) fun _=>j2h E n ctx a b
noncomputable def ju3(E:Nv)(n:Nat)(ctx:List Tm)(t:Tm):M Bool:=bnd (j3h (j1A ctx [t]) 10) fun _=>bnd (jby (j3w E n) (typF E n) ctx t) fun p=>mok p.isSome
noncomputable def jut(E:Nv)(n:Nat)(ctx:List Tm)(t:Tm):M Lv:=bnd (j3h (j1A ctx [t]) 10) fun _=>sortB (j3w E n) (typF E n) ctx t
section
variable{E:Nv}{W:Tm→M Tm}{T:List Tm→Tm→M Tm}{S:List Tm→Tm→Tm→M Bool}
theorem j1s(o:Option Tm):Fine (j4C o):=j06 (jj4 (by omega)) fun _=>j06 (j0u (by omega)) fun _=>j0o _
theorem j9h(l:Lv):Fine (j6B l):=j06 (j0u (by omega)) fun _=>j0o _
theorem j2d(ctx:List Tm)(t:Tm):Fine (j8M ctx t):=j06 (j0u (by omega)) fun _=>j0o _
theorem j3f(hW:∀t,Fine (W t))(hT:∀c t,Fine (T c t))(ctx:List Tm)(t:Tm):Fine (sortB W T ctx t):=j06 j3Q fun _=>j06 (hT _ _) fun _=>j06 (hW _) fun _=>j06 (j0u (by omega)) fun _=>j0o _
theorem jgW(s:List UInt8)(bys:List Lv):typeAt E s bys≠.error 22∧typeAt E s bys≠.error 0:=by
 unfold typeAt jbO;split
 ·constructor<;>intro e<;>cases e
 ·dsimp only;unfold jio;split
  ·unfold atF;split
   ·constructor<;>intro e<;>cases e
   ·split<;>constructor<;>intro e<;>cases e
  ·constructor<;>intro e<;>cases e
theorem jnc(hW:∀t,Fine (W t))(hT:∀c t,Fine (T c t))(ctx:List Tm)(t:Tm):Fine (typB E W T ctx t):=by
 refine j06 j3Q fun _=>?_
 split
 ·exact j06 (j0u (by omega)) fun _=>j1s _
 ·split
  ·exact j06 (j9h _) fun _=>j0o _
  ·split
   ·exact jsd (jgW _ _)
   ·split
    ·exact j06 (hT _ _) fun _=>j06 (hW _) fun _=>j06 (j0u (by omega)) fun _=>j1s _
    ·split
     ·exact j06 (j2d _ _) fun _=>j06 (hT _ _) fun _=>j1s _
     ·split
      ·exact j06 (j3f hW hT _ _) fun _=>j06 (j2d _ _) fun _=>j06 (j3f hW hT _ _) fun _=>j06 (j9h _) fun _=>j0o _
      ·exact j06 (j1s _) fun _=>hT _ _
theorem j1z:∀(n:Nat) (ctx:List Tm) (t:Tm),Fine (typF E n ctx t)
 |0,_,_=>j8d
 |n+1,ctx,t=>jnc (j0B n) (j1z n) ctx t
variable{x:M (Option Tm)}
theorem j3M{l l':Int}{r:Except Int (Option Tm)}(h:j5L x l=some (r,l')):(∃a,x l=some (.ok a,l')∧r=.ok a)∨(∃e,(e=22∨e=15)∧x l=some (.error e,l')∧r=.error e)∨∃e,¬(e=22∨e=15)∧x l=some (.error e,l')∧r=.ok none:=by
 unfold j5L at h;split at h
 ·cases h
 ·rename_i a l1 hx;cases h;exact .inl ⟨a,hx,rfl⟩
 ·rename_i e l1 hx;split at h
  ·rename_i hb;cases h;exact .inr (.inl ⟨e,by simpa using hb,hx,rfl⟩)
  ·rename_i hb;cases h;exact .inr (.inr ⟨e,by simpa using hb,hx,rfl⟩)
theorem jkO(hx:Fine x):Fine (j5L x):=by
 refine⟨fun l r l' h0 h=>?_,fun l r l' k h0 hk h hr=>?_,fun l l' k h0 hk h=>?_,fun l l' h=>?_⟩
 ·rcases j3M h with⟨a,h1,-⟩|⟨e,-,h1,-⟩|⟨e,-,h1,-⟩<;>exact hx.dn l _ l' h0 h1
 ·rcases j3M h with⟨a,h1,rfl⟩|⟨e,he,h1,rfl⟩|⟨e,he,h1,rfl⟩
  ·have:=hx.more l _ l' k h0 hk h1 (by simp)
   simp only[j5L,this]
  ·have:=hx.more l _ l' k h0 hk h1 (fun e'=>hr e')
   simp only[j5L,this];have e15:e=15:=by
    rcases he with rfl|rfl
    ·exact absurd rfl hr
    ·rfl
   subst e15;rfl
  ·have:=hx.more l _ l' k h0 hk h1 (fun e'=>he (.inl (by cases e';rfl)))
   simp only[j5L,this];have:(decide (e=22)||decide (e=15))=false:=by simpa using he
   rw[this]
 ·rcases j3M h with⟨a,h1,h2⟩|⟨e,he,h1,h2⟩|⟨e,he,h1,h2⟩
  ·cases h2
  ·cases h2;obtain⟨a1,a2⟩:=hx.out l l' k h0 hk h1;refine⟨a1,fun r2 l2 h'=>?_⟩
   rcases j3M h' with⟨a,h1,-⟩|⟨e,-,h1,-⟩|⟨e,-,h1,-⟩<;>exact a2 _ _ h1
  ·cases h2
 ·rcases j3M h with⟨a,h1,h2⟩|⟨e,he,h1,h2⟩|⟨e,he,h1,h2⟩
  ·cases h2
  ·cases h2;exact hx.nz _ _ h1
  ·cases h2
theorem j6e(hW:∀t,Fine (W t))(hT:∀c t,Fine (T c t))(ctx:List Tm)(t:Tm):Fine (jby W T ctx t):=
 jkO (j06 j3Q fun _=>j06 (hT _ _) fun _=>j06 (j3f hW hT _ _) fun _=>j0o _)
theorem jb0{S:Tm→Tm→M Bool}(h:∀a b,Fine (S a b)):∀(x y:List Tm),Fine (j7h S x y)
 |a::r,b::s=>j06 (h a b) fun q=>(match q with
  |true=>jb0 h r s
  |false=>j0o _)
 |[],_=>j0o _
 |_::_,[]=>j0o _
theorem j5q(hS:∀c a b,Fine (S c a b))(ctx:List Tm)(a b:Tm):Fine (j4c S ctx a b):=by
 unfold j4c jhy;split
 ·split
  ·exact jb0 (hS _) _ _
  ·exact j0o _
 ·exact j0o _
theorem jj3(hS:∀c a b,Fine (S c a b))(ctx:List Tm)(a b:Tm):Fine (etaB S ctx a b):=j06 (j1s _) fun _=>j06 (j2d _ _) fun _=>j06 (j1s _) fun _=>hS _ _ _
theorem j9f(hS:∀c a b,Fine (S c a b))(ctx:List Tm)(a b:Tm):Fine (j3S S ctx a b):=by
 unfold j3S;split
 ·exact j0o _
 ·split
  ·refine j06 (hS _ _ _) fun q=>?_
   split
   ·exact j06 (j2d _ _) fun _=>hS _ _ _
   ·exact j0o _
  ·split
   ·exact jj3 hS _ _ _
   ·split
    ·exact jj3 hS _ _ _
    ·exact j5q hS _ _ _
theorem jhF(hW:∀t,Fine (W t))(hT:∀c t,Fine (T c t))(hS:∀c a b,Fine (S c a b))(ctx:List Tm)(a b:Tm):Fine (j2C W T S ctx a b):=by
 refine j06 (j6e hW hT _ _) fun p=>?_
 split
 ·exact j0o _
 ·refine j06 (j6e hW hT _ _) fun q=>?_
  split
  ·exact j0o _
  ·exact hS _ _ _
theorem jkR(hW:∀t,Fine (W t))(hT:∀c t,Fine (T c t))(hS:∀c a b,Fine (S c a b))(ctx:List Tm)(a b:Tm):Fine (jic W T S ctx a b):=by
 refine j06 j3Q fun _=>?_
 split
 ·exact j0o _
 ·refine j06 ?_ fun ok=>?_
  ·unfold j8k;split
   ·exact j5q hS _ _ _
   ·exact j0o _
  ·split
   ·exact j0o _
   ·refine j06 (hW _) fun _=>j06 (hW _) fun _=>j06 ?_ fun q=>?_
    ·unfold j3y;split
     ·exact j0o _
     ·exact j9f hS _ _ _
    ·split
     ·exact j0o _
     ·exact jhF hW hT hS _ _ _
theorem j3e:∀(n:Nat) (ctx:List Tm) (a b:Tm),Fine (j2h E n ctx a b)
 |0,_,_,_=>j8d
 |n+1,ctx,a,b=>jkR (j0B n) (j1z n) (j3e n) ctx a b
end
open Go Go.Am Go.Gw
section
variable{E:Nv}{W W':Tm→M Tm}{T T':List Tm→Tm→M Tm}{S S':List Tm→Tm→Tm→M Bool}
theorem jeo(hW:∀t,Le (W t) (W' t))(hT:∀c t,Le (T c t) (T' c t))(ctx:List Tm)(t:Tm):Le (sortB W T ctx t) (sortB W' T' ctx t):=Le.bnd (Le.refl _) fun _=>Le.bnd (hT _ _) fun _=>Le.bnd (hW _) fun _=>Le.refl _
theorem jsu(hW:∀t,Le (W t) (W' t))(hT:∀c t,Le (T c t) (T' c t))(ctx:List Tm)(t:Tm):Le (typB E W T ctx t) (typB E W' T' ctx t):=by
 refine Le.bnd (Le.refl _) fun _=>?_
 split
 ·exact Le.refl _
 ·split
  ·exact Le.refl _
  ·split
   ·exact Le.refl _
   ·split
    ·exact Le.bnd (hT _ _) fun _=>Le.bnd (hW _) fun _=>Le.refl _
    ·split
     ·exact Le.bnd (Le.refl _) fun _=>Le.bnd (hT _ _) fun _=>Le.refl _
     ·split
      ·exact Le.bnd (jeo hW hT _ _) fun _=>Le.bnd (Le.refl _) fun _=>Le.bnd (jeo hW hT _ _) fun _=>Le.refl _
      ·exact Le.bnd (Le.refl _) fun _=>hT _ _
theorem jnO:∀(n:Nat) (ctx:List Tm) (t:Tm),Le (typF E n ctx t) (typF E (n+1) ctx t)
 |0,_,_=>fun _ _ _ h=>by cases h
 |n+1,ctx,t=>jsu (fun t=>j6k (by omega) t) (jnO n) ctx t
variable{m n:Nat}
theorem jnN{α:Type}{x:Nat→M α}(h:∀n,Le (x n) (x (n+1)))(hnm:n≤m):Le (x n) (x m):=by
 induction m with
 |zero=>
  obtain rfl:n=0:=by omega
  exact Le.refl _
 |succ m ih=>
  by_cases e:n=m+1
  ·subst e;exact Le.refl _
  ·exact fun l r l' h'=>h m _ _ _ (ih (by omega) _ _ _ h')
theorem jd1(h:n≤m)(ctx:List Tm)(t:Tm):Le (typF E n ctx t) (typF E m ctx t):=jnN (x:=fun n=>typF E n ctx t) (fun n=>jnO n ctx t) h
theorem jpW{x y:M (Option Tm)}(h:Le x y):Le (j5L x) (j5L y):=fun l r l' h'=>by
 rcases j3M h' with⟨a,h1,rfl⟩|⟨e,he,h1,rfl⟩|⟨e,he,h1,rfl⟩<;>have h2:=h _ _ _ h1<;>simp only[j5L,h2]
 ·have:(decide (e=22)||decide (e=15))=true:=by simpa using he
  rw[this]
 ·have:(decide (e=22)||decide (e=15))=false:=by simpa using he
  rw[this]
theorem jhP(hW:∀t,Le (W t) (W' t))(hT:∀c t,Le (T c t) (T' c t))(ctx:List Tm)(t:Tm):Le (jby W T ctx t) (jby W' T' ctx t):=
 jpW (Le.bnd (Le.refl _) fun _=>Le.bnd (hT _ _) fun _=>Le.bnd (jeo hW hT _ _) fun _=>Le.refl _)
theorem jb9{S S':Tm→Tm→M Bool}(h:∀a b,Le (S a b) (S' a b)):∀(x y:List Tm),Le (j7h S x y) (j7h S' x y)
 |a::r,b::s=>Le.bnd (h a b) fun q=>(match q with
  |true=>jb9 h r s
  |false=>Le.refl _)
 |[],_=>Le.refl _
 |_::_,[]=>Le.refl _
theorem jbb(hS:∀c a b,Le (S c a b) (S' c a b))(ctx:List Tm)(a b:Tm):Le (j4c S ctx a b) (j4c S' ctx a b):=by
 unfold j4c jhy;split
 ·split
  ·exact jb9 (hS _) _ _
  ·exact Le.refl _
 ·exact Le.refl _
theorem jrm(hS:∀c a b,Le (S c a b) (S' c a b))(ctx:List Tm)(a b:Tm):Le (etaB S ctx a b) (etaB S' ctx a b):=Le.bnd (Le.refl _) fun _=>Le.bnd (Le.refl _) fun _=>Le.bnd (Le.refl _) fun _=>hS _ _ _
theorem jjk(hS:∀c a b,Le (S c a b) (S' c a b))(ctx:List Tm)(a b:Tm):Le (j3S S ctx a b) (j3S S' ctx a b):=by
 unfold j3S;split
 ·exact Le.refl _
 ·split
  ·refine Le.bnd (hS _ _ _) fun q=>?_
   split
   ·exact Le.bnd (Le.refl _) fun _=>hS _ _ _
   ·exact Le.refl _
  ·split
   ·exact jrm hS _ _ _
   ·split
    ·exact jrm hS _ _ _
    ·exact jbb hS _ _ _
theorem jgi(hW:∀t,Le (W t) (W' t))(hT:∀c t,Le (T c t) (T' c t))(hS:∀c a b,Le (S c a b) (S' c a b))(ctx:List Tm)(a b:Tm):Le (j2C W T S ctx a b) (j2C W' T' S' ctx a b):=by
 refine Le.bnd (jhP hW hT _ _) fun p=>?_
 split
 ·exact Le.refl _
 ·refine Le.bnd (jhP hW hT _ _) fun q=>?_
  split
  ·exact Le.refl _
  ·exact hS _ _ _
theorem jpY(hW:∀t,Le (W t) (W' t))(hT:∀c t,Le (T c t) (T' c t))(hS:∀c a b,Le (S c a b) (S' c a b))(ctx:List Tm)(a b:Tm):Le (jic W T S ctx a b) (jic W' T' S' ctx a b):=by
 refine Le.bnd (Le.refl _) fun _=>?_
 split
 ·exact Le.refl _
 ·refine Le.bnd ?_ fun ok=>?_
  ·unfold j8k;split
   ·exact jbb hS _ _ _
   ·exact Le.refl _
  ·split
   ·exact Le.refl _
   ·refine Le.bnd (hW _) fun _=>Le.bnd (hW _) fun _=>Le.bnd ?_ fun q=>?_
    ·unfold j3y;split
     ·exact Le.refl _
     ·exact jjk hS _ _ _
    ·split
     ·exact Le.refl _
     ·exact jgi hW hT hS _ _ _
theorem jjn:∀(n:Nat) (ctx:List Tm) (a b:Tm),Le (j2h E n ctx a b) (j2h E (n+1) ctx a b)
 |0,_,_,_=>fun _ _ _ h=>by cases h
 |n+1,ctx,a,b=>jpY (fun t=>j6k (by omega) t) (fun c t=>jd1 (by omega) c t) (jjn n) ctx a b
theorem jba(h:n≤m)(ctx:List Tm)(a b:Tm):Le (j2h E n ctx a b) (j2h E m ctx a b):=jnN (x:=fun n=>j2h E n ctx a b) (fun n=>jjn n ctx a b) h
end
def Mono{α:Type}(x:Nat→M α):Prop:=∀n m,n≤m→Le (x n) (x m)
def Tot{α:Type}(x:Nat→M α)(l:Int):Prop:=∃n r l',x n l=some (r,l')
section
variable{α β:Type}{l:Int}
theorem Tot.const{x:M α}(h:∃r l',x l=some (r,l')):Tot (fun _=>x) l:=⟨0,h⟩
theorem j8C(a:α):Tot (fun _=>mok a) l:=⟨0,_,_,rfl⟩
theorem Tot.bnd{x:Nat→M α}{f:Nat→α→M β}(hx:Tot x l)(mx:Mono x)(hf:∀n a l1,x n l=some (.ok a,l1)→Tot (fun n=>f n a) l1)(mf:∀a,Mono fun n=>f n a):Tot (fun n=>Go.Proofs.YtbnodhcijeaceaaGreatDoor.bnd (x n) (f n)) l:=by
 obtain⟨n,r,l',h⟩:=hx;cases r with
 |error e=>exact⟨n,.error e,l',by simp only[Go.Proofs.YtbnodhcijeaceaaGreatDoor.bnd,h]⟩
 |ok a=>
  obtain⟨m,r2,l2,h2⟩:=hf n a l' h;have h3:=mx n (max n m) (by omega) _ _ _ h
  have h4:=mf a m (max n m) (by omega) _ _ _ h2
  exact⟨max n m,r2,l2,by simp only[Go.Proofs.YtbnodhcijeaceaaGreatDoor.bnd,h3,h4]⟩
theorem Tot.pre{x:M α}{f:Nat→α→M β}(hx:∃r l',x l=some (r,l'))(hf:∀a l1,x l=some (.ok a,l1)→Tot (fun n=>f n a) l1):Tot (fun n=>Go.Proofs.YtbnodhcijeaceaaGreatDoor.bnd x (f n)) l:=by
 obtain⟨r,l',h⟩:=hx;cases r with
 |error e=>exact⟨0,.error e,l',by simp only[Go.Proofs.YtbnodhcijeaceaaGreatDoor.bnd,h]⟩
 |ok a=>
  obtain⟨m,r2,l2,h2⟩:=hf a l' h;exact⟨m,r2,l2,by simp only[Go.Proofs.YtbnodhcijeaceaaGreatDoor.bnd,h,h2]⟩
theorem Tot.succ{x:Nat→M α}{y:Nat→M α}(e:∀n,x (n+1)=y n)(h:Tot y l):Tot x l:=by
 obtain⟨n,r,l',h⟩:=h;exact⟨n+1,r,l',by rw[e];exact h⟩
theorem j1p(b:Bool)(e:Int)(l:Int):∃r l',j3h b e l=some (r,l'):=by cases b<;>exact⟨_,_,rfl⟩
theorem jog(o:Option α)(e:Int)(l:Int):∃r l',optF o e l=some (r,l'):=by cases o<;>exact⟨_,_,rfl⟩
theorem jjY(l:Int):∃r l',j5G l=some (r,l'):=by
 unfold j5G;split<;>exact⟨_,_,rfl⟩
theorem j3r{x:M α}{f:α→M β}(hx:∃r l',x l=some (r,l'))(hf:∀a l,∃r l',f a l=some (r,l')):∃r l',bnd x f l=some (r,l'):=by
 obtain⟨r,l',h⟩:=hx;cases r with
 |error e=>exact⟨.error e,l',by simp only[bnd,h]⟩
 |ok a=>
  obtain⟨r2,l2,h2⟩:=hf a l';exact⟨r2,l2,by simp only[bnd,h,h2]⟩
theorem j3A(o:Option Tm)(l:Int):∃r l',j4C o l=some (r,l'):=j3r (jog _ _ _) fun _ _=>j3r (j1p _ _ _) fun _ _=>⟨_,_,rfl⟩
theorem jbM(o:Lv)(l:Int):∃r l',j6B o l=some (r,l'):=j3r (j1p _ _ _) fun _ _=>⟨_,_,rfl⟩
theorem j8N(ctx:List Tm)(t:Tm)(l:Int):∃r l',j8M ctx t l=some (r,l'):=j3r (j1p _ _ _) fun _ _=>⟨_,_,rfl⟩
theorem jq5(o:Option Tm)(l:Int):∃r l',j7B o l=some (r,l'):=j3r (jjY _) fun _ _=>j3r (jog _ _ _) fun _ _=>j3r (j1p _ _ _) fun _ _=>⟨_,_,rfl⟩
end
variable{r:AEnd}{K:AEnd→Sto→Prop}{e:En}{f:FuncId}{l l' tot:Int}{args cs:List PV}{ts:List Tm}{o:Option Tm}{v:PV}{st:Sto}
theorem jfW{E:Nv}(hE:NvOk E){s:List UInt8}(h:j0E E s=some e):j1u e=true:=by
 unfold j0E at h;split at h
 ·cases h
 ·exact hE.right e (List.mem_of_getElem? h)
theorem j4U(h:j1u e=true)(hk:e.kind=6∨e.kind=7):(0≤e.fixd∧e.fixd≤32)∧(0≤e.idx∧e.idx≤32)∧(0≤e.flds∧e.flds≤32):=by
 simp only[j1u,Bool.and_eq_true] at h;have h1:=h.2.2.2.2.2.1;unfold j3j j4f at h1;rw[if_pos hk] at h1;simp only[Bool.and_eq_true,decide_eq_true_eq] at h1;exact⟨h1.2.2.1,h1.2.2.2.1,h1.2.2.2.2⟩
section
variable{E:Nv}
variable{l q:Int}{t:Tm}{α β:Type}
theorem jpD(hE:NvOk E)(h:∀a,sizT a<sizT t→Tot (fun n=>j7y E n a) l):Tot (fun n=>ja2 E (j7y E n) t) l:=by
 unfold ja2 jn9
 by_cases c1:(spF t).1.kind=5∧¬(j1c t).length=0
 ·simp only[if_pos c1];exact j8C _
 simp only[if_neg c1]
 by_cases c2:(spF t).1.kind=7
 ·simp only[if_pos c2];exact j8C _
 simp only[if_neg c2]
 by_cases c3:(spF t).1.kind=3
 ·simp only[if_pos c3];unfold j2c;cases he:j0E E (spF t).1.name with
  |none=>exact j8C _
  |some e=>
   dsimp only
   by_cases c4:¬((spF t).1.levels.length:Int)=e.pars
   ·simp only[if_pos c4];exact j8C _
   simp only[if_neg c4]
   by_cases c5:e.kind=2
   ·simp only[if_pos c5];exact j8C _
   simp only[if_neg c5]
   by_cases c6:e.kind=7
   ·simp only[if_pos c6];unfold jhO
    by_cases c7:((j1c t).length:Int)≤j4D e+e.idx
    ·simp only[if_pos c7];exact j8C _
    ·simp only[if_neg c7];have hn:=j4U (jfW hE he) (.inr c6);have hq:(j4D e+e.idx).toNat<(j1c t).length:=by
      unfold j4D at c7⊢;omega
     refine Tot.bnd (h _ ((j9z t).2 _ (j3a.1 ?_))) (fun _ _ h=>jem h _) (fun n a l1 _=>?_) (fun a n m _=>Le.refl _)
     ·rw[List.getD_eq_getElem?_getD,List.getElem?_eq_getElem hq];exact List.getElem_mem hq
     ·refine⟨0,?_⟩;dsimp only;cases jaN E a e.ctors<;>exact⟨_,_,rfl⟩
   ·simp only[if_neg c6];exact j8C _
 ·simp only[if_neg c3];exact j8C _
theorem jsy{o:Option Tm}{x:Tm}{l':Int}(h:j7B o l=some (.ok x,l')):1≤l∧l'=l-1∧o=some x∧j0v x≤2000:=by
 unfold j7B at h;rcases j09 h with⟨e,h1,h2⟩|⟨a,l1,h1,h2⟩
 ·cases h2
 rcases j1d h1 with⟨a1,a2,a3⟩|⟨a1,a2,a3⟩
 ·rcases j09 h2 with⟨e,b1,b2⟩|⟨y,l2,b1,b2⟩
  ·cases b2
  rcases j09 b2 with⟨e,c1,c2⟩|⟨u,l3,c1,c2⟩
  ·cases c2
  cases o with
  |none=>cases b1
  |some z=>
   cases b1;obtain⟨d1,d2⟩:=j1q c1;cases c2;rcases d2 with⟨d2,-⟩|⟨-,d2⟩
   ·exact⟨a1,by omega,rfl,of_decide_eq_true d2⟩
   ·cases d2
 ·cases a3
theorem j3i(h:j0v t≤2000):sizT t≤2000:=by rw[j2A] at h;omega
theorem jpJ(hE:NvOk E):∀(q s:Nat) (t:Tm) (l:Int),0≤l→l=q→sizT t=s→sizT t≤2000→Tot (fun n=>j7y E n t) l:=by
 intro q
 induction q using Nat.strongRecOn with
 |_ q ihq=>
 intro s
 induction s using Nat.strongRecOn with
 |_ s ihs=>
 intro t l h0 hl hs h2;refine Tot.succ (fun n=>jcS E n t) ?_
 have hf:Tot (fun n=>ja2 E (j7y E n) t) l:=jpD hE fun a ha=>ihs (sizT a) (by omega) a l h0 hl rfl (by omega)
 refine Tot.bnd hf (fun n m h=>jnL (fun a=>jem h a) t) (fun n r l1 hr=>?_) (fun r n m h=>?_)
 ·have hd:=(j8c (j6d n) t).dn l _ l1 h0 hr;match r with
  |none=>exact j8C _
  |some (k,o)=>
   refine Tot.pre (jq5 o l1) fun x l2 hx=>?_
   obtain⟨a1,a2,a3,a4⟩:=jsy hx;exact ihq l2.toNat (by omega) (sizT x) x l2 (by omega) (by omega) rfl (j3i a4)
 ·match r with
  |none=>exact Le.refl _
  |some (k,o)=>exact Le.bnd (Le.refl _) fun x=>jem h x
def TotU{α:Type}(x:Nat→M α)(q:Int):Prop:=∀l,0≤l→l≤q→Tot x l
theorem TotU.bnd{x:Nat→M α}{f:Nat→α→M β}(hx:TotU x q)(fx:∀n,Fine (x n))(mx:Mono x)(hf:∀a,TotU (fun n=>f n a) q)(mf:∀a,Mono fun n=>f n a):TotU (fun n=>Go.Proofs.YtbnodhcijeaceaaGreatDoor.bnd (x n) (f n)) q:=fun l h0 h1=>
 Tot.bnd (hx l h0 h1) mx (fun n a l1 h=>by
  have:=(fx n).dn l _ l1 h0 h;exact hf a l1 this.1 (by omega)) mf
theorem TotU.pre{x:M α}{f:Nat→α→M β}(hx:∀l,∃r l',x l=some (r,l'))(fx:Fine x)(hf:∀a,TotU (fun n=>f n a) q):TotU (fun n=>Go.Proofs.YtbnodhcijeaceaaGreatDoor.bnd x (f n)) q:=fun l h0 h1=>
 Tot.pre (hx l) fun a l1 h=>by
  have:=fx.dn l _ l1 h0 h;exact hf a l1 this.1 (by omega)
theorem TotU.tick{f:Nat→M β}(hf:TotU f (q-1)):TotU (fun n=>Go.Proofs.YtbnodhcijeaceaaGreatDoor.bnd j5G fun _=>f n) q:=fun l h0 h1=>
 Tot.pre (jjY l) fun a l1 h=>by
  rcases j1d h with⟨a1,a2,a3⟩|⟨a1,a2,a3⟩
  ·exact hf l1 (by omega) (by omega)
  ·cases a3
theorem j2l{x:M α}(hx:∀l,∃r l',x l=some (r,l')):TotU (fun _=>x) q:=fun l _ _=>⟨0,hx l⟩
theorem j1G(a:α):TotU (fun _=>mok a) q:=j2l fun _=>⟨_,_,rfl⟩
theorem j7b(hE:NvOk E)(q:Int)(t:Tm):TotU (fun n=>j3w E n t) q:=fun l h0 _=>Tot.pre (j1p _ _ l) fun a l1 h=>by
 obtain⟨h1,h2⟩:=j1q h;rcases h2 with⟨h2,-⟩|⟨-,h2⟩
 ·subst h1;have hp:j0w t 4 1099511627776=true:=by
   unfold jbs at h2;rw[Bool.and_eq_true] at h2;exact h2.1
  exact jpJ hE l1.toNat _ t l1 h0 (by omega) rfl (j3i (j3k hp).2.2.1)
 ·cases h2
theorem j1D(t:Tm):Mono fun n=>j3w E n t:=fun _ _ h=>j6k h t
theorem jak(c:List Tm)(t:Tm):Mono fun n=>typF E n c t:=fun _ _ h=>jd1 h c t
theorem j6n(c:List Tm)(a b:Tm):Mono fun n=>j2h E n c a b:=fun _ _ h=>jba h c a b
theorem j0V(x:M α):Mono fun _=>x:=fun _ _ _=>Le.refl _
theorem j6o(c:List Tm)(t:Tm):Mono fun n=>sortB (j3w E n) (typF E n) c t:=fun _ _ h=>jeo (fun t=>j6k h t) (fun c t=>jd1 h c t) c t
theorem jbm(c:List Tm)(t:Tm):Mono fun n=>jby (j3w E n) (typF E n) c t:=fun _ _ h=>jhP (fun t=>j6k h t) (fun c t=>jd1 h c t) c t
theorem j1J{x:Nat→M α}{f:Nat→α→M β}(mx:Mono x)(mf:∀a,Mono fun n=>f n a):Mono fun n=>bnd (x n) (f n):=fun n m h=>Le.bnd (mx n m h) fun a=>mf a n m h
theorem jjR(hE:NvOk E)(hT:∀c t,TotU (fun n=>typF E n c t) (q-1))(c:List Tm)(t:Tm):TotU (fun n=>sortB (j3w E n) (typF E n) c t) q:=
 TotU.tick (TotU.bnd (hT c t) (fun n=>j1z n c t) (jak c t) (fun x=>TotU.bnd (j7b hE _ x) (fun n=>j0B n x) (j1D x) (fun s=>TotU.pre (fun l=>j1p _ _ l) (j0u (by omega)) fun _=>j1G _) (fun s=>j0V _)) (fun x=>j1J (j1D x) fun s=>j0V _))
theorem jsS(hE:NvOk E):∀(q:Nat) (c:List Tm) (t:Tm),TotU (fun n=>typF E n c t) q:=by
 intro q
 induction q using Nat.strongRecOn with
 |_ q ih=>
 intro c t l h0 h1;refine Tot.succ (fun n=>jgV E n c t) ?_
 refine TotU.tick (q:=q) ?_ l h0 h1
 intro l h0 h1;have hT:∀c t,TotU (fun n=>typF E n c t) ((q:Int)-1):=fun c t=>by
  have:=ih (q-1) (by omega) c t
  rwa [show((q-1:Nat):Int)=(q:Int)-1 by omega] at this
 have hT2:∀c t,TotU (fun n=>typF E n c t) ((q:Int)-1-1):=fun c t l h0 h1=>hT c t l h0 (by omega)
 have hS:=fun c t=>jjR hE hT2 c t
 revert l
 show TotU _ _
 by_cases c1:t.kind=1
 ·simp only[if_pos c1];exact j2l fun l=>j3r (j1p _ _ _) fun _ _=>j3A _ _
 simp only[if_neg c1]
 by_cases c2:t.kind=2
 ·simp only[if_pos c2];exact j2l fun l=>j3r (jbM _ _) fun _ _=>⟨_,_,rfl⟩
 simp only[if_neg c2]
 by_cases c3:t.kind=3
 ·simp only[if_pos c3];exact j2l fun l=>⟨_,_,rfl⟩
 simp only[if_neg c3]
 by_cases c4:t.kind=4
 ·simp only[if_pos c4];exact TotU.bnd (hT c _) (fun n=>j1z n c _) (jak c _) (fun y=>TotU.bnd (j7b hE _ y) (fun n=>j0B n y) (j1D y) (fun f=>j2l fun l=>j3r (j1p _ _ _) fun _ _=>j3A _ _) (fun f=>j0V _)) (fun y=>j1J (j1D y) fun f=>j0V _)
 simp only[if_neg c4]
 by_cases c5:t.kind=5
 ·simp only[if_pos c5];exact TotU.pre (fun l=>j8N _ _ l) (j2d _ _) fun c2=>TotU.bnd (hT c2 _) (fun n=>j1z n c2 _) (jak c2 _) (fun b=>j2l fun l=>j3A _ _) (fun b=>j0V _)
 simp only[if_neg c5]
 by_cases c6:t.kind=6
 ·simp only[if_pos c6];refine TotU.bnd (hS c _) (fun n=>j3f (j0B n) (j1z n) c _) (j6o c _) (fun a=>TotU.pre (fun l=>j8N _ _ l) (j2d _ _) fun c2=>TotU.bnd (hS c2 _) (fun n=>j3f (j0B n) (j1z n) c2 _) (j6o c2 _) (fun m=>j2l fun l=>j3r (jbM _ _) fun _ _=>⟨_,_,rfl⟩) (fun m=>j0V _)) (fun a=>j1J (j0V _) fun c2=>j1J (j6o c2 _) fun m=>j0V _)
 simp only[if_neg c6];exact TotU.pre (fun l=>j3A _ l) (j1s _) fun x=>hT c x
theorem jmG{x:Nat→M (Option Tm)}(h:TotU x q):TotU (fun n=>j5L (x n)) q:=fun l h0 h1=>by
 obtain⟨n,r,l',hx⟩:=h l h0 h1;refine⟨n,?_⟩;simp only[j5L,hx];cases r with
 |ok a=>exact⟨_,_,rfl⟩
 |error e=>
  dsimp only;split<;>exact⟨_,_,rfl⟩
theorem jqo(hE:NvOk E)(hT:∀c t,TotU (fun n=>typF E n c t) (q-1))(c:List Tm)(t:Tm):TotU (fun n=>jby (j3w E n) (typF E n) c t) q:=
 jmG (TotU.tick (TotU.bnd (hT c t) (fun n=>j1z n c t) (jak c t) (fun ty=>TotU.bnd (jjR hE (fun c t l h0 h1=>hT c t l h0 (by omega)) c ty) (fun n=>j3f (j0B n) (j1z n) c ty) (j6o c ty) (fun s=>j1G _) (fun s=>j0V _)) (fun ty=>j1J (j6o c ty) fun s=>j0V _)))
theorem jk2(hE:NvOk E)(q:Int)(c:List Tm)(t:Tm):TotU (fun n=>typF E n c t) q:=fun l h0 h1=>jsS hE q.toNat c t l h0 (by omega)
theorem jcM{S:Nat→Tm→Tm→M Bool}{q:Int}(h:∀a b,TotU (fun n=>S n a b) q)(f:∀n a b,Fine (S n a b))(m:∀a b,Mono fun n=>S n a b):∀(x y:List Tm),TotU (fun n=>j7h (S n) x y) q
 |a::r,b::s=>TotU.bnd (h a b) (fun n=>f n a b) (m a b) (fun p=>(match p with
  |true=>jcM h f m r s
  |false=>j1G _)) (fun p=>(match p with
  |true=>fun _ _ hnm=>jb9 (fun a b=>m a b _ _ hnm) r s
  |false=>j0V _))
 |[],_=>j1G _
 |_::_,[]=>j1G _
theorem jdq(hS:∀c a b,TotU (fun n=>j2h E n c a b) q)(c:List Tm)(a b:Tm):TotU (fun n=>j4c (j2h E n) c a b) q:=by
 unfold j4c jhy;cases j9F (spF a).1 (spF b).1 with
 |false=>exact j1G _
 |true=>
  dsimp only;cases decide ((j1c a).length=(j1c b).length) with
  |false=>exact j1G _
  |true=>exact jcM (hS c) (fun n a b=>j3e n c a b) (j6n c) _ _
theorem jn7(hS:∀c a b,TotU (fun n=>j2h E n c a b) q)(c:List Tm)(a b:Tm):TotU (fun n=>etaB (j2h E n) c a b) q:=
 TotU.pre (fun l=>j3A _ l) (j1s _) fun up=>TotU.pre (fun l=>j8N _ _ l) (j2d _ _) fun c2=>TotU.pre (fun l=>j3A _ l) (j1s _) fun u=>hS _ _ _
theorem jnf(hS:∀c a b,TotU (fun n=>j2h E n c a b) q)(c:List Tm)(a b:Tm):TotU (fun n=>j3S (j2h E n) c a b) q:=by
 unfold j3S
 by_cases c1:a.kind=2∧b.kind=2
 ·simp only[if_pos c1];exact j1G _
 simp only[if_neg c1]
 by_cases c2:a.kind=b.kind∧(a.kind=6∨a.kind=5)
 ·simp only[if_pos c2];refine TotU.bnd (hS _ _ _) (fun n=>j3e n _ _ _) (j6n _ _ _) (fun p=>?_) (fun p=>?_)
  ·cases p with
   |true=>exact TotU.pre (fun l=>j8N _ _ l) (j2d _ _) fun c2=>hS _ _ _
   |false=>exact j1G _
  ·cases p with
   |true=>exact j1J (j0V _) fun c2=>j6n _ _ _
   |false=>exact j0V _
 simp only[if_neg c2]
 by_cases c3:a.kind=5
 ·simp only[if_pos c3];exact jn7 hS _ _ _
 simp only[if_neg c3]
 by_cases c4:b.kind=5
 ·simp only[if_pos c4];exact jn7 hS _ _ _
 simp only[if_neg c4];exact jdq hS _ _ _
theorem jhZ(c:List Tm)(a b:Tm):Mono fun n=>j2C (j3w E n) (typF E n) (j2h E n) c a b:=fun _ _ h=>jgi (fun t=>j6k h t) (fun c t=>jd1 h c t) (fun c a b=>jba h c a b) c a b
theorem jlp(hE:NvOk E)(hS:∀c a b,TotU (fun n=>j2h E n c a b) q)(c:List Tm)(a b:Tm):TotU (fun n=>j2C (j3w E n) (typF E n) (j2h E n) c a b) q:=by
 have hp:=fun c t=>jqo hE (q:=q) (jk2 hE _) c t
 refine TotU.bnd (hp c a) (fun n=>j6e (j0B n) (j1z n) c a) (jbm c a) (fun p=>?_) (fun p=>?_)
 ·cases p with
  |none=>exact j1G _
  |some p=>
   refine TotU.bnd (hp c b) (fun n=>j6e (j0B n) (j1z n) c b) (jbm c b) (fun r=>?_) (fun r=>?_)
   ·cases r with
    |none=>exact j1G _
    |some r=>exact hS _ _ _
   ·cases r with
    |none=>exact j0V _
    |some r=>exact j6n _ _ _
 ·cases p with
  |none=>exact j0V _
  |some p=>exact j1J (jbm c b) fun r=>(match r with
   |none=>j0V _
   |some r=>j6n _ _ _)
theorem jqF(hE:NvOk E):∀(q:Nat) (c:List Tm) (a b:Tm),TotU (fun n=>j2h E n c a b) q:=by
 intro q
 induction q using Nat.strongRecOn with
 |_ q ih=>
 intro c a b l h0 h1;refine Tot.succ (fun n=>jlE E n c a b) ?_
 refine TotU.tick (q:=q) ?_ l h0 h1
 intro l h0 h1;have hS:∀c a b,TotU (fun n=>j2h E n c a b) ((q:Int)-1):=fun c a b=>by
  have:=ih (q-1) (by omega) c a b
  rwa [show((q-1:Nat):Int)=(q:Int)-1 by omega] at this
 revert l
 show TotU _ _
 cases eqTm a b with
 |true=>exact j1G _
 |false=>
  dsimp only;have hl:TotU (fun n=>j8k (j2h E n) c a b) ((q:Int)-1):=by
   unfold j8k;cases j4v a b with
   |true=>exact jdq hS _ _ _
   |false=>exact j1G _
  have hlm:Mono fun n=>j8k (j2h E n) c a b:=by
   unfold j8k;cases j4v a b with
   |true=>exact fun _ _ h=>jbb (fun c a b=>jba h c a b) c a b
   |false=>exact j0V _
  have hlf:∀n,Fine (j8k (j2h E n) c a b):=fun n=>by
   unfold j8k;cases j4v a b with
   |true=>exact j5q (j3e n) _ _ _
   |false=>exact j0o _
  have hst:∀x y,TotU (fun n=>j3y (j2h E n) c a b x y) ((q:Int)-1):=fun x y=>by
   unfold j3y;cases j4v a b&&(eqTm a x&&eqTm b y) with
   |true=>exact j1G _
   |false=>exact jnf hS _ _ _
  have hsm:∀x y,Mono fun n=>j3y (j2h E n) c a b x y:=fun x y=>by
   unfold j3y;cases j4v a b&&(eqTm a x&&eqTm b y) with
   |true=>exact j0V _
   |false=>exact fun _ _ h=>jjk (fun c a b=>jba h c a b) c _ _
  have hsf:∀n x y,Fine (j3y (j2h E n) c a b x y):=fun n x y=>by
   unfold j3y;cases j4v a b&&(eqTm a x&&eqTm b y) with
   |true=>exact j0o _
   |false=>exact j9f (j3e n) _ _ _
  have mq:∀(x y:Tm) (p:Bool),Mono fun n=>(match p with
   |true=>mok true
   |false=>j2C (j3w E n) (typF E n) (j2h E n) c x y:M Bool):=fun x y p=>by
   cases p with
   |true=>exact j0V _
   |false=>exact jhZ _ _ _
  have my:∀x y:Tm,Mono fun n=>bnd (j3y (j2h E n) c a b x y) fun p=>(match p with
   |true=>mok true
   |false=>j2C (j3w E n) (typF E n) (j2h E n) c x y:M Bool):=fun x y=>j1J (hsm x y) (mq x y)
  refine TotU.bnd hl hlf hlm (fun ok=>?_) (fun ok=>?_)
  ·cases ok with
   |true=>exact j1G _
   |false=>
    refine TotU.bnd (j7b hE _ a) (fun n=>j0B n a) (j1D a) (fun x=>?_) (fun x=>j1J (j1D b) fun y=>my x y)
    refine TotU.bnd (j7b hE _ b) (fun n=>j0B n b) (j1D b) (fun y=>?_) (fun y=>my x y)
    refine TotU.bnd (hst x y) (fun n=>hsf n x y) (hsm x y) (fun p=>?_) (mq x y)
    cases p with
    |true=>exact j1G _
    |false=>exact jlp hE hS _ _ _
  ·cases ok with
   |true=>exact j0V _
   |false=>exact j1J (j1D a) fun x=>j1J (j1D b) fun y=>my x y
end
open Go Go.Am Go.Gw
def runB(cs:List PV)(tot l:Int):SO:=.box 104 [.cp cs,iv (tot-l),iv l]
def Fr(f:FuncId)(args:List PV)(cs:List PV)(tot l:Int)(r:AEnd)(l':Int):Prop:=Finds C1 f args [runB cs tot l] fun r' st'=>r'=r∧st'=[runB cs tot l']
theorem jqV(h:Fr f args cs tot l r l')(hw:handed C1 f args st=some (args,st))(hp:args.all (pur 8)=false)(hπ:(close st 64 (args.flatMap (ids 8)) []).reverse=[0])(hi:args.all (j0e (fun i=>[0].elem i) 8)=true)
  (hf:fetch (fun i=>place i 0 [0]) (fun i=>[0].elem i) st [0]=some [runB cs tot l]) (ha:args.map (j1n (fun i=>place i 0 [0]) 8)=args) (hb:jck (fun j=>Nat.blt j 1) r=true) (k:K (j5O (back [0] st.length) r) (st.set 0 (runB cs tot l'))):VCall C1 f args st K:=by
 refine j0F hw hp hπ hi hf ha (Finds.mono h ?_);rintro _ _ ⟨rfl,rfl⟩;refine j1Y ?_ ?_
 ·simp only[List.length_cons,List.length_nil,Nat.zero_add,hb,Bool.true_and];rfl
 ·have e:(st.set 0 (runB cs tot l'))++[]=st.set 0 (runB cs tot l'):=List.append_nil _;rw[←e] at k;exact k
theorem gW(h:Fr f args cs tot l r l')(k:K (j5O (back [0] st.length) r) (st.set 0 (runB cs tot l')))(hw:handed C1 f args st=some (args,st):=by exact rfl)(hp:args.all (pur 8)=false:=by exact rfl)(hπ:(close st 64 (args.flatMap (ids 8)) []).reverse=[0]:=by exact rfl)(hi:args.all (j0e (fun i=>[0].elem i) 8)=true:=by exact rfl)
  (hf:fetch (fun i=>place i 0 [0]) (fun i=>[0].elem i) st [0]=some [runB cs tot l]:=by exact rfl) (ha:args.map (j1n (fun i=>place i 0 [0]) 8)=args:=by exact rfl) (hb:jck (fun j=>Nat.blt j 1) r=true:=by exact rfl):VCall C1 f args st K:=jqV h hw hp hπ hi hf ha hb k
theorem j0y(h:Finds C1 f args [] fun r _=>r=.pan v)(hp:args.all (pur 8)=true)(hv:pur 8 v=true)(k:K (.pan v) st):VCall C1 f args st K:=
 j2V hp (Finds.mono h fun r _ e=>by subst e;exact⟨hv,k⟩)
theorem j1m(h:Finds C1 f args [] fun r _=>r=.pan v)(k:∀st,K (.pan v) st):Finds C1 f args [] K:=Finds.mono h fun r st e=>by subst e;exact k st
def j1T(e:Int):PV:=.ifc 304 (.ag [iv e])
theorem j1e(e:Int):Pf C1 276 [bv true,iv e] []:=by
 refine j00 Tryz.func276 rfl rfl rfl ?_;repeat'(refine gU ?_)<;>conv=>whnf
 all_goals rfl
theorem j4o(e:Int):Finds C1 276 [bv false,iv e] [] fun r _=>r=.pan (j1T e):=by
 refine j00 Tryz.func276 rfl rfl rfl ?_;repeat'(refine gU ?_)<;>conv=>whnf
 all_goals rfl
theorem jf1(cs:List PV)(tot l:Int)(h1:1≤l)(h2:l≤tot)(h3:tot≤1048576):Fr 110 [.bp 0 0,iv 1] cs tot l (.ret [bv true]) (l-1):=by
 refine j00 Tryz.func110 rfl rfl rfl ?_;repeat'(first|refine gU ?_|apply gE<;>intro h)<;>conv=>whnf
 all_goals first|(exfalso;omega)|skip
 refine⟨rfl,?_⟩;rw[show tot-l+1=tot-(l-1) by omega]
 rfl
theorem jf0(cs:List PV)(tot l:Int)(h1:l<1):Fr 110 [.bp 0 0,iv 1] cs tot l (.ret [bv false]) l:=by
 refine j00 Tryz.func110 rfl rfl rfl ?_;repeat'(refine gU ?_)<;>conv=>whnf
 all_goals first|(exfalso;omega)|exact⟨rfl,rfl⟩
theorem jlD(cs:List PV)(tot l:Int):Fr 155 [.bp 0 0] cs tot l (.ret [.cp cs]) l:=by
 refine j00 Tryz.func155 rfl rfl rfl ?_;repeat'(refine gU ?_)<;>conv=>whnf
 all_goals exact gJ
theorem jp9(t:Tm)(v:PV)(h:TmP t v)(hn:j0v t≤2000):Pf C1 313 [v] [v]:=by
 have h1:=j1X t v h;have h2:Pf C1 276 [bv (decide (j0v t≤2000)),iv 15] []:=by
  rw[decide_eq_true hn];exact j1e 15
 obtain⟨k1,n1,s1,l1,t1,b1,z1,x1,c1,y1,ys1,rfl,rfl,-⟩:=h.open;refine j00 Tryz.func313 rfl rfl rfl ?_;repeat'(first|refine gU ?_|refine gX h1 ?_|refine gX h2 ?_)<;>conv=>whnf
 all_goals rfl
theorem jp8(t:Tm)(v:PV)(h:TmP t v)(hn:¬j0v t≤2000):Finds C1 313 [v] [] fun r _=>r=.pan (j1T 15):=by
 have h1:=j1X t v h;have h2:Finds C1 276 [bv (decide (j0v t≤2000)),iv 15] [] fun r _=>r=.pan (j1T 15):=by
  rw[decide_eq_false hn];exact j4o 15
 obtain⟨k1,n1,s1,l1,t1,b1,z1,x1,c1,y1,ys1,rfl,rfl,-⟩:=h.open;refine j00 Tryz.func313 rfl rfl rfl ?_;repeat'(first|refine gX h1 ?_|refine j0y h2 rfl rfl ?_)<;>conv=>whnf
 all_goals rfl
def OutP(o:Option Tm)(w:PV):Prop:=(∃k n s b z xs c y ys,w=.ag [iv k,iv n,sv s,.sl b z xs,.sl c y ys])∧∀x,o=some x→TmP x w
theorem TmsP.drop:∀{ts:List Tm}{xs:List PV}(i:Nat),TmsP ts xs→TmsP (ts.drop i) (xs.drop i)
 |ts,xs,0,h=>h
 |[],xs,i+1,h=>by
  simp only[TmsP] at h;subst h;simp[TmsP]
 |a::r,xs,i+1,h=>by
  simp only[TmsP] at h;obtain⟨v,xs',rfl,h1,h2⟩:=h;exact TmsP.drop i h2
theorem getD_at{i:Nat}(h:i<ts.length):ts[i]?=some (ts.getD i tz):=by
 rw[List.getD_eq_getElem?_getD,List.getElem?_eq_getElem h];rfl
theorem j5B(o:Option Tm):putV o=[encT (o.getD tz),bv o.isSome]:=by cases o<;>rfl
theorem j7k(h:∀x,o=some x→TmW x):TmW (o.getD tz):=by
 cases o with
 |none=>exact jk0
 |some x=>exact h x rfl
theorem jeF(h:∀x,o=some x→TmW x)(hts:∀a∈ts,TmW a):OutP (appO o ts) (appV (encT (o.getD tz)) ts):=by
 obtain⟨k2,n2,s2,b2,z2,x2,c2,y2,ys2,he2⟩:=j07 (o.getD tz);refine⟨?_,fun x hx=>?_⟩
 ·rw[he2];exact j7Q _ _ _ _ _ _ _ _ _ _
 ·cases o with
  |none=>cases hx
  |some y=>
   cases hx;exact jhg (h y rfl) hts
theorem jmr(h:Tm)(hv:PV)(hh:TmP h hv)(hs:shT h=true)(hk:h.kind=5)(args:List Tm)(b:Bool)(z:Nat)(xs:List PV)(hz:z=5∨xs=[])(hxs:TmsP args xs)(hpos:¬args.length=0)(hbd:args.length≤2000):
  ∃w,OutP (appO (InstF (h.arg 1) [args.getD 0 tz]) (args.drop 1)) w∧Pf C1 366 [.cp hv.cells,.cp [.sl b z xs]] [w,bv (InstF (h.arg 1) [args.getD 0 tz]).isSome]:=by
 obtain⟨k,n,s,ls,ts⟩:=h;obtain⟨a1,a2,a3,a4,a5,a6⟩:=j0s hs;simp only[Tm.kind] at hk;subst hk;have hlen2:ts.length=2:=by
  have:j1f 5=2:=rfl;omega
 obtain⟨_,_,_,_,_,hb,hz',hxs',hc,hy,hys,⟨rfl,rfl,rfl,rfl,rfl⟩,rfl,-,-,-,-,hyz,htys,-,-,-⟩:=hh.open;obtain⟨v1,hv1,h1⟩:=htys.at (getD_at (ts:=ts) (i:=1) (by omega))
 obtain⟨v0,hv0,h0⟩:=hxs.at (getD_at (ts:=args) (i:=0) (by omega))
 have hI:=j6K _ v1 h1 [args.getD 0 tz] true 5 [v0] (.inl rfl) ⟨v0,[],rfl,h0,rfl⟩ (by simp)
 have hd:TmsP (args.drop 1) ((xs.take xs.length).drop 1):=by
  rw[List.take_length];exact hxs.drop 1
 have hlen:=hxs.len;have e:(Tm.mk 5 n s ls ts).arg 1=ts.getD 1 tz:=rfl;rw[e];have hw:∀x,InstF (ts.getD 1 tz) [args.getD 0 tz]=some x→TmW x:=fun x hx=>j8O (by simpa using h0.w) h1.w hx
 have ho:=jeF hw fun a ha=>hd.ws a ha
 have ha:=j7P _ _ (j7k hw) (args.drop 1) (b&&Nat.beq xs.length xs.length) z ((xs.take xs.length).drop 1) (hz.imp id fun e=>by rw[e];rfl) hd (by simp;omega)
 rw[j5B] at hI;generalize InstF (ts.getD 1 tz) [args.getD 0 tz]=o at *;obtain⟨k2,n2,s2,b2,z2,x2,c2,y2,ys2,he2⟩:=j07 (o.getD tz);rw[he2] at hI ha ho;obtain⟨⟨k3,n3,s3,b3,z3,x3,c3,y3,ys3,he3⟩,ho2⟩:=ho;rw[he3] at ha ho2;refine⟨_,⟨⟨k3,n3,s3,b3,z3,x3,c3,y3,ys3,rfl⟩,ho2⟩,?_⟩;cases h1.c;cases h0.c;have hle:(xs.length.ble xs.length&&Nat.ble 1 xs.length)=true:=by simp only[Nat.ble_eq,Bool.and_eq_true];omega
 refine j00 Tryz.func366 rfl rfl rfl ?_;repeat'(first|refine gU ?_|refine VIdx.mk _ hv1 ?_|refine VIdx.mk _ hv0 ?_|refine gZ hyz ?_|refine gZ hz ?_|refine j01 hI fun _=>?_|refine VOk.mk hle ?_|refine j01 ha fun _=>?_|apply gK)<;>conv=>whnf
 all_goals rfl
end Go.Proofs.YtbnodhcijeaceaaGreatDoor

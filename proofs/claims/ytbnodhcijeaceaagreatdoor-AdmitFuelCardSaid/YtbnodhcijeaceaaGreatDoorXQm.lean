/- Types that are held against each other (package infer), as plain functions by ticks. -/
import Derived.Test.YtbnodhcijeaceaaGreatDoorXJa
set_option linter.all false
namespace Go.Proofs.YtbnodhcijeaceaaGreatDoor
open Go Go.Am Go.Gw
section
variable(E:Nv)(n:Nat)(I:List Tm→Tm→M Tm)
noncomputable def levB(x:Tm):M Lv:=bnd (j3v E n x) fun s=>bnd (j3i (decide (s.kind=2)) 19) fun _=>mok s.lv
noncomputable def j7n(ctx:List Tm)(t:Tm):M Lv:=bnd (I ctx t) fun x=>levB E n x
noncomputable def j9E(ctx:List Tm)(t typ:Tm):M Unit:=bnd (I ctx t) fun a=>bnd (j7S E n ctx a typ) fun ok=>j3i ok 18
noncomputable def js8(ctx:List Tm)(t:Tm):M Tm:=bnd (I ctx (t.arg 0)) fun y=>bnd (j3v E n y) fun f=>bnd (j3i (decide (f.kind=6)) 20) fun _=>bnd (j9E E n I ctx (t.arg 1) (f.arg 0)) fun _=>j4D (InstF (f.arg 1) [t.arg 1])
def j9N(ctx:List Tm)(t body:Tm):M Tm:=bnd (j8I ctx t) fun c2=>I c2 body
noncomputable def js9(ctx:List Tm)(t:Tm):M Tm:=bnd (j7n E n I ctx (t.arg 0)) fun _=>bnd (j9N I ctx (t.arg 0) (t.arg 1)) fun b=>j4D (some (overR 6 [t.arg 0] b))
noncomputable def ipiB(ctx:List Tm)(t:Tm):M Tm:=bnd (j7n E n I ctx (t.arg 0)) fun l=>bnd (bnd (j9N I ctx (t.arg 0) (t.arg 1)) fun b=>levB E n b) fun m=>bnd (j6D (j8P l m)) fun x=>mok (jeN x)
noncomputable def jsa(ctx:List Tm)(t:Tm):M Tm:=bnd (j7n E n I ctx (t.arg 0)) fun _=>bnd (j9E E n I ctx (t.arg 1) (t.arg 0)) fun _=>bnd (j4D (InstF (t.arg 2) [t.arg 1])) fun b=>I ctx b
noncomputable def j9M(ctx:List Tm)(t:Tm):M Tm:=
 if t.kind=4 then js8 E n I ctx t else if t.kind=5 then js9 E n I ctx t else if t.kind=6 then ipiB E n I ctx t else if t.kind=7 then jsa E n I ctx t else jaC E n ctx t
noncomputable def jj6(ctx:List Tm)(t:Tm):M Tm:=bnd j5I fun _=>j9M E n I ctx t
end
noncomputable def j1I(E:Nv)(n:Nat):List Tm→Tm→M Tm:=Nat.rec (motive:=fun _=>List Tm→Tm→M Tm) (fun _ _ _=>none) (fun m I ctx t=>jj6 E m I ctx t) n
theorem jhI(E:Nv)(n:Nat)(ctx:List Tm)(t:Tm):j1I E (n+1) ctx t=jj6 E n (j1I E n) ctx t:=rfl
noncomputable def j6h(E:Nv)(n:Nat)(ctx:List Tm)(t:Tm):M Tm:=bnd (j3i (j1z ctx [t]) 10) fun _=>j1I E n ctx t
noncomputable def jfZ(E:Nv)(n:Nat)(ctx:List Tm)(t:Tm):M Lv:=bnd (j6h E n ctx t) fun x=>levB E n x
noncomputable def jaV(E:Nv)(n:Nat)(ctx:List Tm)(t typ:Tm):M Unit:=bnd (j6h E n ctx t) fun a=>bnd (j7S E n ctx a typ) fun ok=>j3i ok 18
noncomputable def jtb(E:Nv)(n:Nat)(c:List Tm):List Tm→M Unit
 |[]=>mok ()
 |t::r=>bnd (j7n E n (j1I E n) c t) fun _=>jtb E n (c++[t]) r
noncomputable def jta(E:Nv)(n:Nat)(ctx:List Tm):M Unit:=bnd (j3i (j1z ctx []) 10) fun _=>jtb E n [] ctx
section
variable{E:Nv}{n m:Nat}{I J:List Tm→Tm→M Tm}
theorem jcE(c:List Tm)(t:Tm):Fine (jaC E n c t):=j06 (j0u (by omega)) fun _=>j1y n c t
theorem j3F(c:List Tm)(a b:Tm):Fine (j7S E n c a b):=j06 (j0u (by omega)) fun _=>j3f n c a b
theorem jac(x:Tm):Fine (levB E n x):=j06 (j0B n x) fun _=>j06 (j0u (by omega)) fun _=>j0n _
theorem j1U(h:∀c t,Fine (I c t))(c:List Tm)(t:Tm):Fine (j7n E n I c t):=j06 (h c t) fun _=>jac _
theorem j4C(h:∀c t,Fine (I c t))(c:List Tm)(t u:Tm):Fine (j9E E n I c t u):=j06 (h c t) fun _=>j06 (j3F _ _ _) fun _=>j0u (by omega)
theorem j2P(h:∀c t,Fine (I c t))(c:List Tm)(t u:Tm):Fine (j9N I c t u):=j06 (j2c _ _) fun _=>h _ _
theorem jhw(h:∀c t,Fine (I c t))(c:List Tm)(t:Tm):Fine (j9M E n I c t):=by
 unfold j9M;split
 ·exact j06 (h _ _) fun _=>j06 (j0B n _) fun _=>j06 (j0u (by omega)) fun _=>j06 (j4C h _ _ _) fun _=>j1q _
 split
 ·exact j06 (j1U h _ _) fun _=>j06 (j2P h _ _ _) fun _=>j1q _
 split
 ·exact j06 (j1U h _ _) fun _=>j06 (j06 (j2P h _ _ _) fun _=>jac _) fun _=>j06 (j9f _) fun _=>j0n _
 split
 ·exact j06 (j1U h _ _) fun _=>j06 (j4C h _ _ _) fun _=>j06 (j1q _) fun _=>h _ _
 ·exact jcE _ _
theorem j0Q:∀(n:Nat) (c:List Tm) (t:Tm),Fine (j1I E n c t)
 |0,_,_=>j8d
 |n+1,c,t=>j06 j3R fun _=>jhw (j0Q n) c t
theorem jpJ(h:n≤m)(c:List Tm)(t:Tm):Le (jaC E n c t) (jaC E m c t):=Le.bnd (Le.refl _) fun _=>jcQ h c t
theorem jad(h:n≤m)(c:List Tm)(a b:Tm):Le (j7S E n c a b) (j7S E m c a b):=Le.bnd (Le.refl _) fun _=>jb2 h c a b
theorem jjg(h:n≤m)(x:Tm):Le (levB E n x) (levB E m x):=Le.bnd (j6m h x) fun _=>Le.refl _
theorem jae(h:n≤m)(hI:∀c t,Le (I c t) (J c t))(c:List Tm)(t:Tm):Le (j7n E n I c t) (j7n E m J c t):=Le.bnd (hI c t) fun _=>jjg h _
theorem jea(h:n≤m)(hI:∀c t,Le (I c t) (J c t))(c:List Tm)(t u:Tm):Le (j9E E n I c t u) (j9E E m J c t u):=Le.bnd (hI c t) fun _=>Le.bnd (jad h _ _ _) fun _=>Le.refl _
theorem jec(hI:∀c t,Le (I c t) (J c t))(c:List Tm)(t u:Tm):Le (j9N I c t u) (j9N J c t u):=Le.bnd (Le.refl _) fun _=>hI _ _
theorem jnx(h:n≤m)(hI:∀c t,Le (I c t) (J c t))(c:List Tm)(t:Tm):Le (j9M E n I c t) (j9M E m J c t):=by
 unfold j9M;split
 ·exact Le.bnd (hI _ _) fun _=>Le.bnd (j6m h _) fun _=>Le.bnd (Le.refl _) fun _=>Le.bnd (jea h hI _ _ _) fun _=>Le.refl _
 split
 ·exact Le.bnd (jae h hI _ _) fun _=>Le.bnd (jec hI _ _ _) fun _=>Le.refl _
 split
 ·exact Le.bnd (jae h hI _ _) fun _=>Le.bnd (Le.bnd (jec hI _ _ _) fun _=>jjg h _) fun _=>Le.refl _
 split
 ·exact Le.bnd (jae h hI _ _) fun _=>Le.bnd (jea h hI _ _ _) fun _=>Le.bnd (Le.refl _) fun _=>hI _ _
 ·exact jpJ h _ _
theorem jg4:∀(n:Nat) (c:List Tm) (t:Tm),Le (j1I E n c t) (j1I E (n+1) c t)
 |0,_,_=>fun _ _ _ h=>by cases h
 |n+1,c,t=>Le.bnd (Le.refl _) fun _=>jnx (by omega) (jg4 n) c t
theorem j8i(h:n≤m)(c:List Tm)(t:Tm):Le (j1I E n c t) (j1I E m c t):=jny (x:=fun n=>j1I E n c t) (fun n=>jg4 n c t) h
theorem j9l(c:List Tm)(a b:Tm):Mono fun n=>j7S E n c a b:=fun _ _ h=>jad h c a b
theorem j8p(x:Tm):Mono fun n=>levB E n x:=fun _ _ h=>jjg h x
theorem j4K(c:List Tm)(t:Tm):Mono fun n=>j1I E n c t:=fun _ _ h=>j8i h c t
theorem j9m(c:List Tm)(t:Tm):Mono fun n=>j7n E n (j1I E n) c t:=fun _ _ h=>jae h (fun c t=>j8i h c t) c t
theorem j4J(c:List Tm)(t u:Tm):Mono fun n=>j9E E n (j1I E n) c t u:=fun _ _ h=>jea h (fun c t=>j8i h c t) c t u
theorem j4L(c:List Tm)(t u:Tm):Mono fun n=>j9N (j1I E n) c t u:=fun _ _ h=>jec (fun c t=>j8i h c t) c t u
end
section
variable{E:Nv}{q:Int}
theorem joo(hE:NvOk E)(q:Int)(c:List Tm)(a b:Tm):TotU (fun n=>j2f E n c a b) q:=fun l h0 h1=>jqr hE q.toNat c a b l h0 (by omega)
theorem jms(hE:NvOk E)(q:Int)(c:List Tm)(t:Tm):TotU (fun n=>jaC E n c t) q:=TotU.pre (fun l=>j1n _ _ l) (j0u (by omega)) fun _=>jjV hE q c t
theorem jfp(hE:NvOk E)(q:Int)(c:List Tm)(a b:Tm):TotU (fun n=>j7S E n c a b) q:=TotU.pre (fun l=>j1n _ _ l) (j0u (by omega)) fun _=>joo hE q c a b
theorem jhO(hE:NvOk E)(q:Int)(x:Tm):TotU (fun n=>levB E n x) q:=TotU.bnd (j7c hE _ x) (fun n=>j0B n x) (j1C x) (fun s=>TotU.pre (fun l=>j1n _ _ l) (j0u (by omega)) fun _=>j1F _) (fun s=>j0V _)
theorem jns(hE:NvOk E)(hI:∀c t,TotU (fun n=>j1I E n c t) q)(c:List Tm)(t:Tm):TotU (fun n=>j7n E n (j1I E n) c t) q:=TotU.bnd (hI c t) (fun n=>j0Q n c t) (j4K c t) (fun x=>jhO hE q x) (fun x=>j8p x)
theorem jmu(hE:NvOk E)(hI:∀c t,TotU (fun n=>j1I E n c t) q)(c:List Tm)(t u:Tm):TotU (fun n=>j9E E n (j1I E n) c t u) q:=TotU.bnd (hI c t) (fun n=>j0Q n c t) (j4K c t) (fun x=>TotU.bnd (jfp hE q c x u) (fun n=>j3F c x u) (j9l c x u) (fun ok=>j2j fun l=>j1n _ _ l) (fun ok=>j0V _)) (fun x=>j1K (j9l c x u) fun ok=>j0V _)
theorem jnt(hI:∀c t,TotU (fun n=>j1I E n c t) q)(c:List Tm)(t u:Tm):TotU (fun n=>j9N (j1I E n) c t u) q:=TotU.pre (fun l=>j8J _ _ l) (j2c _ _) fun c2=>hI c2 u
theorem jnh(hE:NvOk E):∀(q:Nat) (c:List Tm) (t:Tm),TotU (fun n=>j1I E n c t) q:=by
 intro q
 induction q using Nat.strongRecOn with
 |_ q ih=>
 intro c t l h0 h1;refine Tot.succ (fun n=>jhI E n c t) ?_
 refine TotU.tick (q:=q) ?_ l h0 h1
 intro l h0 h1;have hI:∀c t,TotU (fun n=>j1I E n c t) ((q:Int)-1):=fun c t=>by
  have:=ih (q-1) (by omega) c t
  rwa [show((q-1:Nat):Int)=(q:Int)-1 by omega] at this
 have hS:=jns hE hI;have hC:=jmu hE hI;have hW:=jnt hI;revert l;show TotU _ _
 unfold j9M
 by_cases c1:t.kind=4
 ·simp only[if_pos c1];exact TotU.bnd (hI _ _) (fun n=>j0Q n _ _) (j4K _ _) (fun y=>TotU.bnd (j7c hE _ y) (fun n=>j0B n y) (j1C y) (fun f=>TotU.pre (fun l=>j1n _ _ l) (j0u (by omega)) fun _=>TotU.bnd (hC _ _ _) (fun n=>j4C (j0Q n) _ _ _) (j4J _ _ _) (fun _=>j2j fun l=>j3z _ _) (fun _=>j0V _)) (fun f=>j1K (j0V _) fun _=>j1K (j4J _ _ _) fun _=>j0V _)) (fun y=>j1K (j1C y) fun f=>j1K (j0V _) fun _=>j1K (j4J _ _ _) fun _=>j0V _)
 simp only[if_neg c1]
 by_cases c2:t.kind=5
 ·simp only[if_pos c2];exact TotU.bnd (hS _ _) (fun n=>j1U (j0Q n) _ _) (j9m _ _) (fun _=>TotU.bnd (hW _ _ _) (fun n=>j2P (j0Q n) _ _ _) (j4L _ _ _) (fun b=>j2j fun l=>j3z _ _) (fun b=>j0V _)) (fun _=>j1K (j4L _ _ _) fun b=>j0V _)
 simp only[if_neg c2]
 by_cases c3:t.kind=6
 ·simp only[if_pos c3];exact TotU.bnd (hS _ _) (fun n=>j1U (j0Q n) _ _) (j9m _ _) (fun a=>TotU.bnd (TotU.bnd (hW _ _ _) (fun n=>j2P (j0Q n) _ _ _) (j4L _ _ _) (fun b=>jhO hE _ b) (fun b=>j8p b)) (fun n=>j06 (j2P (j0Q n) _ _ _) fun _=>jac _) (j1K (j4L _ _ _) fun b=>j8p b) (fun m=>j2j fun l=>j3s (jbB _ _) fun _ _=>⟨_,_,rfl⟩) (fun m=>j0V _)) (fun a=>j1K (j1K (j4L _ _ _) fun b=>j8p b) fun m=>j0V _)
 simp only[if_neg c3]
 by_cases c4:t.kind=7
 ·simp only[if_pos c4];exact TotU.bnd (hS _ _) (fun n=>j1U (j0Q n) _ _) (j9m _ _) (fun a=>TotU.bnd (hC _ _ _) (fun n=>j4C (j0Q n) _ _ _) (j4J _ _ _) (fun _=>TotU.pre (fun l=>j3z _ _) (j1q _) fun b=>hI _ _) (fun _=>j1K (j0V _) fun b=>j4K _ _)) (fun a=>j1K (j4J _ _ _) fun _=>j1K (j0V _) fun b=>j4K _ _)
 simp only[if_neg c4];exact jms hE _ _ _
theorem jkR(hE:NvOk E)(q:Int)(c:List Tm)(t:Tm):TotU (fun n=>j1I E n c t) q:=fun l h0 h1=>jnh hE q.toNat c t l h0 (by omega)
end
open Go Go.Am Go.Gw
theorem jpt{α:Type}{x:M α}(fx:Fine x){l k:Int}(h0:0≤l)(hk:0≤k){r r2:Except Int α}{l' l2:Int}(h:x l=some (r,l'))(h2:x (l+k)=some (r2,l2)):0≤l'∧l'≤l∧0≤l2∧((r=.error 22∧l'=0∧l2≤k)∨(¬r=.error 22∧r2=r∧l2=l'+k)):=by
 have d1:=fx.dn l _ l' h0 h;have d2:=fx.dn (l+k) _ l2 (by omega) h2
 refine⟨d1.1,d1.2,d2.1,?_⟩
 by_cases e:r=.error 22
 ·subst e;obtain⟨a1,a2⟩:=fx.out l l' k h0 hk h;exact .inl ⟨rfl,a1,a2 _ _ h2⟩
 ·have:=fx.more l r l' k h0 hk h e;rw[h2] at this;cases this;exact .inr ⟨e,rfl,rfl⟩
theorem j5r{E:Nv}(n:Nat)(c:List Tm)(t:Tm):Fine (j6h E n c t):=j06 (j0u (by omega)) fun _=>j0Q n c t
open Go Go.ChangeShapes Go.WideShapes Go.ChangeAt Go.RowKit
section
open Go.Gw Go.Am
variable{H:Type}{enc:TypeId×Value→H}{P:Program}{W:World}
end
section
variable{H:Type}{enc:TypeId×Value→H}{W:World}{r:Reach}{b0:Nat}{v:Value}{d:DataW H}{ps:List MemPlace}
end
theorem je3{H:Type}{enc:TypeId×Value→H}{a:Assume}{C:Checked}{os:Os}{f:FuncId}{fn:Func}{s:ChangeSpec}{conds:List PathCond}{apart fresh handsOn again:Bool}{X:World→Array Value→Prop}
  (hX:∀(w w':World) (args:Array Value),w.heap=w'.heap→X w args→X w' args)
  (own:ownKnob C.prog.godebug=none) (started:os.Started) (noInit:C.prog.inits.idxOf? f=none) (hfn:C.prog.funcs[f]?=some fn)
  (witness:∃(w:World) (tape:Tape) (i:Input),w.os=os∧(w.forCall tape i).Shaped C.prog∧i.vars=[]∧Input.okWide C.prog (w.forCall tape i) .any w.heap.size f i ∧
   ((s.pre enc C.prog fn conds apart (w.forCall tape i).memory i.args∧X (w.forCall tape i).memory i.args)∧sizedMet enc C.prog fn (OpenSpec.ofChange s) apart (w.forCall tape i).memory i.args)∧a.holds C.prog (lone (Frame.enter C.prog f i.args .normal) [] (w.forCall tape i)))
  (contract:∀(W:World) (base:Nat) (args:Array Value) (ds gs:List (DataW H)) (before:List MemPlace),
   (∀(j:Nat) t v,fn.params[j]?=some t→args[j]?=some v→Value.okWide C.prog W .any base t v) →
   DataW.Whole enc C.prog fn.params.toList s.vars apart W args.toList ds gs before →
   conds.all (PathCond.test C.prog ⟨fn.params.toList,ds,s.plain.varTypes C.prog,gs⟩)=true →
   (DataW.weightsEach C.prog (fn.params.toList++s.plain.varTypes C.prog) (ds++gs)).all (· ≤reachBytes)=true→X W args→W.ShapedOpen C.prog →
   a.holds C.prog (lone (Frame.enter C.prog f args .normal) [] W) →
   Calls C.prog f args W fun e W'=>∃v,e=.returned v∧s.post enc C.prog fn apart fresh handsOn again W args v W') :
  ReturnsInHanded a C os f .any (fun w args=>(s.pre enc C.prog fn conds apart w args∧X w args)∧sizedMet enc C.prog fn (OpenSpec.ofChange s) apart w args) (s.post enc C.prog fn apart fresh handsOn again):=by
 refine returnsInHanded_of_calls own started noInit witness ?_
 intro w tape i _ hsh _ hok hpre hholds;obtain⟨_,_,_,fn',hfn',_,_,_,_,hval⟩:=hok;have e:fn'=fn:=Option.some.inj (hfn'.symm.trans hfn);subst e;obtain⟨⟨⟨ds,gs,before,hw,hc⟩,hx⟩,hz⟩:=hpre;have hw':=DataW.Whole.of_heap (w':=w.forCall tape i) (by rfl) hw
 refine(contract (w.forCall tape i) w.heap.size i.args ds gs before hval hw' hc (hz.weights hw) (hX _ _ _ (by rfl) hx) hsh hholds).mono fun e W' ⟨v,he,hp⟩=>?_
 subst he;exact ChangeSpec.post_blind hp
end Go.Proofs.YtbnodhcijeaceaaGreatDoor

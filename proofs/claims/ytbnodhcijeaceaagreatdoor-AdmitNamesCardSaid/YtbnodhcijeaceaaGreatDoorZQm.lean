/- Types that are held against each other (package infer), as plain functions by ticks. -/
import Derived.Test.YtbnodhcijeaceaaGreatDoorZJa
set_option linter.all false
namespace Go.Proofs.YtbnodhcijeaceaaGreatDoor
open Go Go.Am Go.Gw
section
variable(E:Nv)(n:Nat)(I:List Tm→Tm→M Tm)
noncomputable def levB(x:Tm):M Lv:=bnd (j3w E n x) fun s=>bnd (j3h (decide (s.kind=2)) 19) fun _=>mok s.lv
noncomputable def j7m(ctx:List Tm)(t:Tm):M Lv:=bnd (I ctx t) fun x=>levB E n x
noncomputable def j9H(ctx:List Tm)(t typ:Tm):M Unit:=bnd (I ctx t) fun a=>bnd (j7T E n ctx a typ) fun ok=>j3h ok 18
noncomputable def jsk(ctx:List Tm)(t:Tm):M Tm:=bnd (I ctx (t.arg 0)) fun y=>bnd (j3w E n y) fun f=>bnd (j3h (decide (f.kind=6)) 20) fun _=>bnd (j9H E n I ctx (t.arg 1) (f.arg 0)) fun _=>j4C (InstF (f.arg 1) [t.arg 1])
def j9P(ctx:List Tm)(t body:Tm):M Tm:=bnd (j8M ctx t) fun c2=>I c2 body
noncomputable def jsl(ctx:List Tm)(t:Tm):M Tm:=bnd (j7m E n I ctx (t.arg 0)) fun _=>bnd (j9P I ctx (t.arg 0) (t.arg 1)) fun b=>j4C (some (overR 6 [t.arg 0] b))
noncomputable def ipiB(ctx:List Tm)(t:Tm):M Tm:=bnd (j7m E n I ctx (t.arg 0)) fun l=>bnd (bnd (j9P I ctx (t.arg 0) (t.arg 1)) fun b=>levB E n b) fun m=>bnd (j6B (j8S l m)) fun x=>mok (jeW x)
noncomputable def jsm(ctx:List Tm)(t:Tm):M Tm:=bnd (j7m E n I ctx (t.arg 0)) fun _=>bnd (j9H E n I ctx (t.arg 1) (t.arg 0)) fun _=>bnd (j4C (InstF (t.arg 2) [t.arg 1])) fun b=>I ctx b
noncomputable def j8j(ctx:List Tm)(t:Tm):M Tm:=
 if t.kind=4 then jsk E n I ctx t else if t.kind=5 then jsl E n I ctx t else if t.kind=6 then ipiB E n I ctx t else if t.kind=7 then jsm E n I ctx t else j9G E n ctx t
noncomputable def jge(ctx:List Tm)(t:Tm):M Tm:=bnd j5G fun _=>j8j E n I ctx t
end
noncomputable def j1I(E:Nv)(n:Nat):List Tm→Tm→M Tm:=Nat.rec (motive:=fun _=>List Tm→Tm→M Tm) (fun _ _ _=>none) (fun m I ctx t=>jge E m I ctx t) n
theorem jb6(E:Nv)(n:Nat)(ctx:List Tm)(t:Tm):j1I E (n+1) ctx t=jge E n (j1I E n) ctx t:=rfl
noncomputable def j4q(E:Nv)(n:Nat)(ctx:List Tm)(t:Tm):M Tm:=bnd (j3h (j1A ctx [t]) 10) fun _=>j1I E n ctx t
noncomputable def jcV(E:Nv)(n:Nat)(ctx:List Tm)(t:Tm):M Lv:=bnd (j4q E n ctx t) fun x=>levB E n x
noncomputable def j9j(E:Nv)(n:Nat)(ctx:List Tm)(t typ:Tm):M Unit:=bnd (j4q E n ctx t) fun a=>bnd (j7T E n ctx a typ) fun ok=>j3h ok 18
noncomputable def jtq(E:Nv)(n:Nat)(c:List Tm):List Tm→M Unit
 |[]=>mok ()
 |t::r=>bnd (j7m E n (j1I E n) c t) fun _=>jtq E n (c++[t]) r
noncomputable def jtp(E:Nv)(n:Nat)(ctx:List Tm):M Unit:=bnd (j3h (j1A ctx []) 10) fun _=>jtq E n [] ctx
section
variable{E:Nv}{n m:Nat}{I J:List Tm→Tm→M Tm}
theorem jcO(c:List Tm)(t:Tm):Fine (j9G E n c t):=j06 (j0u (by omega)) fun _=>j1z n c t
theorem j3F(c:List Tm)(a b:Tm):Fine (j7T E n c a b):=j06 (j0u (by omega)) fun _=>j3e n c a b
theorem jag(x:Tm):Fine (levB E n x):=j06 (j0B n x) fun _=>j06 (j0u (by omega)) fun _=>j0o _
theorem j1V(h:∀c t,Fine (I c t))(c:List Tm)(t:Tm):Fine (j7m E n I c t):=j06 (h c t) fun _=>jag _
theorem j4A(h:∀c t,Fine (I c t))(c:List Tm)(t u:Tm):Fine (j9H E n I c t u):=j06 (h c t) fun _=>j06 (j3F _ _ _) fun _=>j0u (by omega)
theorem j2P(h:∀c t,Fine (I c t))(c:List Tm)(t u:Tm):Fine (j9P I c t u):=j06 (j2d _ _) fun _=>h _ _
theorem jhE(h:∀c t,Fine (I c t))(c:List Tm)(t:Tm):Fine (j8j E n I c t):=by
 unfold j8j;split
 ·exact j06 (h _ _) fun _=>j06 (j0B n _) fun _=>j06 (j0u (by omega)) fun _=>j06 (j4A h _ _ _) fun _=>j1s _
 split
 ·exact j06 (j1V h _ _) fun _=>j06 (j2P h _ _ _) fun _=>j1s _
 split
 ·exact j06 (j1V h _ _) fun _=>j06 (j06 (j2P h _ _ _) fun _=>jag _) fun _=>j06 (j9h _) fun _=>j0o _
 split
 ·exact j06 (j1V h _ _) fun _=>j06 (j4A h _ _ _) fun _=>j06 (j1s _) fun _=>h _ _
 ·exact jcO _ _
theorem j0R:∀(n:Nat) (c:List Tm) (t:Tm),Fine (j1I E n c t)
 |0,_,_=>j8d
 |n+1,c,t=>j06 j3Q fun _=>jhE (j0R n) c t
theorem jpV(h:n≤m)(c:List Tm)(t:Tm):Le (j9G E n c t) (j9G E m c t):=Le.bnd (Le.refl _) fun _=>jd1 h c t
theorem jah(h:n≤m)(c:List Tm)(a b:Tm):Le (j7T E n c a b) (j7T E m c a b):=Le.bnd (Le.refl _) fun _=>jba h c a b
theorem jjm(h:n≤m)(x:Tm):Le (levB E n x) (levB E m x):=Le.bnd (j6k h x) fun _=>Le.refl _
theorem jai(h:n≤m)(hI:∀c t,Le (I c t) (J c t))(c:List Tm)(t:Tm):Le (j7m E n I c t) (j7m E m J c t):=Le.bnd (hI c t) fun _=>jjm h _
theorem jel(h:n≤m)(hI:∀c t,Le (I c t) (J c t))(c:List Tm)(t u:Tm):Le (j9H E n I c t u) (j9H E m J c t u):=Le.bnd (hI c t) fun _=>Le.bnd (jah h _ _ _) fun _=>Le.refl _
theorem jen(hI:∀c t,Le (I c t) (J c t))(c:List Tm)(t u:Tm):Le (j9P I c t u) (j9P J c t u):=Le.bnd (Le.refl _) fun _=>hI _ _
theorem jnM(h:n≤m)(hI:∀c t,Le (I c t) (J c t))(c:List Tm)(t:Tm):Le (j8j E n I c t) (j8j E m J c t):=by
 unfold j8j;split
 ·exact Le.bnd (hI _ _) fun _=>Le.bnd (j6k h _) fun _=>Le.bnd (Le.refl _) fun _=>Le.bnd (jel h hI _ _ _) fun _=>Le.refl _
 split
 ·exact Le.bnd (jai h hI _ _) fun _=>Le.bnd (jen hI _ _ _) fun _=>Le.refl _
 split
 ·exact Le.bnd (jai h hI _ _) fun _=>Le.bnd (Le.bnd (jen hI _ _ _) fun _=>jjm h _) fun _=>Le.refl _
 split
 ·exact Le.bnd (jai h hI _ _) fun _=>Le.bnd (jel h hI _ _ _) fun _=>Le.bnd (Le.refl _) fun _=>hI _ _
 ·exact jpV h _ _
theorem jgh:∀(n:Nat) (c:List Tm) (t:Tm),Le (j1I E n c t) (j1I E (n+1) c t)
 |0,_,_=>fun _ _ _ h=>by cases h
 |n+1,c,t=>Le.bnd (Le.refl _) fun _=>jnM (by omega) (jgh n) c t
theorem j8l(h:n≤m)(c:List Tm)(t:Tm):Le (j1I E n c t) (j1I E m c t):=jnN (x:=fun n=>j1I E n c t) (fun n=>jgh n c t) h
theorem j9o(c:List Tm)(a b:Tm):Mono fun n=>j7T E n c a b:=fun _ _ h=>jah h c a b
theorem j8s(x:Tm):Mono fun n=>levB E n x:=fun _ _ h=>jjm h x
theorem j4K(c:List Tm)(t:Tm):Mono fun n=>j1I E n c t:=fun _ _ h=>j8l h c t
theorem j9p(c:List Tm)(t:Tm):Mono fun n=>j7m E n (j1I E n) c t:=fun _ _ h=>jai h (fun c t=>j8l h c t) c t
theorem j4J(c:List Tm)(t u:Tm):Mono fun n=>j9H E n (j1I E n) c t u:=fun _ _ h=>jel h (fun c t=>j8l h c t) c t u
theorem j4L(c:List Tm)(t u:Tm):Mono fun n=>j9P (j1I E n) c t u:=fun _ _ h=>jen (fun c t=>j8l h c t) c t u
end
section
variable{E:Nv}{q:Int}
theorem joC(hE:NvOk E)(q:Int)(c:List Tm)(a b:Tm):TotU (fun n=>j2h E n c a b) q:=fun l h0 h1=>jqF hE q.toNat c a b l h0 (by omega)
theorem jmF(hE:NvOk E)(q:Int)(c:List Tm)(t:Tm):TotU (fun n=>j9G E n c t) q:=TotU.pre (fun l=>j1p _ _ l) (j0u (by omega)) fun _=>jk2 hE q c t
theorem jfB(hE:NvOk E)(q:Int)(c:List Tm)(a b:Tm):TotU (fun n=>j7T E n c a b) q:=TotU.pre (fun l=>j1p _ _ l) (j0u (by omega)) fun _=>joC hE q c a b
theorem jhU(hE:NvOk E)(q:Int)(x:Tm):TotU (fun n=>levB E n x) q:=TotU.bnd (j7b hE _ x) (fun n=>j0B n x) (j1D x) (fun s=>TotU.pre (fun l=>j1p _ _ l) (j0u (by omega)) fun _=>j1G _) (fun s=>j0V _)
theorem jnG(hE:NvOk E)(hI:∀c t,TotU (fun n=>j1I E n c t) q)(c:List Tm)(t:Tm):TotU (fun n=>j7m E n (j1I E n) c t) q:=TotU.bnd (hI c t) (fun n=>j0R n c t) (j4K c t) (fun x=>jhU hE q x) (fun x=>j8s x)
theorem jmH(hE:NvOk E)(hI:∀c t,TotU (fun n=>j1I E n c t) q)(c:List Tm)(t u:Tm):TotU (fun n=>j9H E n (j1I E n) c t u) q:=TotU.bnd (hI c t) (fun n=>j0R n c t) (j4K c t) (fun x=>TotU.bnd (jfB hE q c x u) (fun n=>j3F c x u) (j9o c x u) (fun ok=>j2l fun l=>j1p _ _ l) (fun ok=>j0V _)) (fun x=>j1J (j9o c x u) fun ok=>j0V _)
theorem jnH(hI:∀c t,TotU (fun n=>j1I E n c t) q)(c:List Tm)(t u:Tm):TotU (fun n=>j9P (j1I E n) c t u) q:=TotU.pre (fun l=>j8N _ _ l) (j2d _ _) fun c2=>hI c2 u
theorem jnw(hE:NvOk E):∀(q:Nat) (c:List Tm) (t:Tm),TotU (fun n=>j1I E n c t) q:=by
 intro q
 induction q using Nat.strongRecOn with
 |_ q ih=>
 intro c t l h0 h1;refine Tot.succ (fun n=>jb6 E n c t) ?_
 refine TotU.tick (q:=q) ?_ l h0 h1
 intro l h0 h1;have hI:∀c t,TotU (fun n=>j1I E n c t) ((q:Int)-1):=fun c t=>by
  have:=ih (q-1) (by omega) c t
  rwa [show((q-1:Nat):Int)=(q:Int)-1 by omega] at this
 have hS:=jnG hE hI;have hC:=jmH hE hI;have hW:=jnH hI;revert l;show TotU _ _
 unfold j8j
 by_cases c1:t.kind=4
 ·simp only[if_pos c1];exact TotU.bnd (hI _ _) (fun n=>j0R n _ _) (j4K _ _) (fun y=>TotU.bnd (j7b hE _ y) (fun n=>j0B n y) (j1D y) (fun f=>TotU.pre (fun l=>j1p _ _ l) (j0u (by omega)) fun _=>TotU.bnd (hC _ _ _) (fun n=>j4A (j0R n) _ _ _) (j4J _ _ _) (fun _=>j2l fun l=>j3A _ _) (fun _=>j0V _)) (fun f=>j1J (j0V _) fun _=>j1J (j4J _ _ _) fun _=>j0V _)) (fun y=>j1J (j1D y) fun f=>j1J (j0V _) fun _=>j1J (j4J _ _ _) fun _=>j0V _)
 simp only[if_neg c1]
 by_cases c2:t.kind=5
 ·simp only[if_pos c2];exact TotU.bnd (hS _ _) (fun n=>j1V (j0R n) _ _) (j9p _ _) (fun _=>TotU.bnd (hW _ _ _) (fun n=>j2P (j0R n) _ _ _) (j4L _ _ _) (fun b=>j2l fun l=>j3A _ _) (fun b=>j0V _)) (fun _=>j1J (j4L _ _ _) fun b=>j0V _)
 simp only[if_neg c2]
 by_cases c3:t.kind=6
 ·simp only[if_pos c3];exact TotU.bnd (hS _ _) (fun n=>j1V (j0R n) _ _) (j9p _ _) (fun a=>TotU.bnd (TotU.bnd (hW _ _ _) (fun n=>j2P (j0R n) _ _ _) (j4L _ _ _) (fun b=>jhU hE _ b) (fun b=>j8s b)) (fun n=>j06 (j2P (j0R n) _ _ _) fun _=>jag _) (j1J (j4L _ _ _) fun b=>j8s b) (fun m=>j2l fun l=>j3r (jbM _ _) fun _ _=>⟨_,_,rfl⟩) (fun m=>j0V _)) (fun a=>j1J (j1J (j4L _ _ _) fun b=>j8s b) fun m=>j0V _)
 simp only[if_neg c3]
 by_cases c4:t.kind=7
 ·simp only[if_pos c4];exact TotU.bnd (hS _ _) (fun n=>j1V (j0R n) _ _) (j9p _ _) (fun a=>TotU.bnd (hC _ _ _) (fun n=>j4A (j0R n) _ _ _) (j4J _ _ _) (fun _=>TotU.pre (fun l=>j3A _ _) (j1s _) fun b=>hI _ _) (fun _=>j1J (j0V _) fun b=>j4K _ _)) (fun a=>j1J (j4J _ _ _) fun _=>j1J (j0V _) fun b=>j4K _ _)
 simp only[if_neg c4];exact jmF hE _ _ _
theorem jl1(hE:NvOk E)(q:Int)(c:List Tm)(t:Tm):TotU (fun n=>j1I E n c t) q:=fun l h0 h1=>jnw hE q.toNat c t l h0 (by omega)
end
open Go Go.Am Go.Gw
theorem j5p{E:Nv}(n:Nat)(c:List Tm)(t:Tm):Fine (j4q E n c t):=j06 (j0u (by omega)) fun _=>j0R n c t
open Go Go.ChangeShapes Go.WideShapes Go.ChangeAt Go.RowKit
section
open Go.Gw Go.Am
variable{H:Type}{enc:TypeId×Value→H}{P:Program}{W:World}
end
section
variable{H:Type}{enc:TypeId×Value→H}{W:World}{r:Reach}{b0:Nat}{v:Value}{d:DataW H}{ps:List MemPlace}
end
theorem j8g{H:Type}{enc:TypeId×Value→H}{a:Assume}{C:Checked}{os:Os}{f:FuncId}{fn:Func}{s:ChangeSpec}{conds:List PathCond}{apart fresh handsOn again:Bool}{X:World→Array Value→Prop}
  (hX:∀(w w':World) (args:Array Value),w.heap=w'.heap→X w args→X w' args)
  (own:ownKnob C.prog.godebug=none) (started:os.Started) (noInit:C.prog.inits.idxOf? f=none) (hfn:C.prog.funcs[f]?=some fn)
  (witness:∃(w:World) (tape:Tape) (i:Input),w.os=os∧(w.forCall tape i).Shaped C.prog∧i.vars=[]∧Input.okWide C.prog (w.forCall tape i) .any w.heap.size f i ∧
   ((s.pre enc C.prog fn conds apart (w.forCall tape i).memory i.args∧X (w.forCall tape i).memory i.args)∧sizedMet enc C.prog fn (OpenSpec.ofChange s) apart (w.forCall tape i).memory i.args)∧a.holds C.prog (lone (Frame.enter C.prog f i.args .normal) [] (w.forCall tape i)))
  (contract:∀(W:World) (base:Nat) (args:Array Value) (ds gs:List (DataW H)) (before:List MemPlace),
   (∀(j:Nat) t v,fn.params[j]?=some t→args[j]?=some v→Value.okWide C.prog W .any base t v) →
   DataW.Whole enc C.prog fn.params.toList s.vars apart W args.toList ds gs before →
   conds.all (PathCond.test C.prog ⟨fn.params.toList,ds,s.plain.varTypes C.prog,gs⟩)=true →
   (DataW.weightsEach C.prog (fn.params.toList++s.plain.varTypes C.prog) (ds++gs)).all (· ≤reachBytes)=true→X W args→W.ShapedOpen C.prog →
   a.holds C.prog (lone (Frame.enter C.prog f args .normal) [] W) →
   Calls C.prog f args W fun e W'=>∃v,e=.returned v∧s.post enc C.prog fn apart fresh handsOn again W args v W') :
  ReturnsInHanded a C os f .any (fun w args=>(s.pre enc C.prog fn conds apart w args∧X w args)∧sizedMet enc C.prog fn (OpenSpec.ofChange s) apart w args) (s.post enc C.prog fn apart fresh handsOn again):=by
 refine returnsInHanded_of_calls own started noInit witness ?_
 intro w tape i _ hsh _ hok hpre hholds;obtain⟨_,_,_,fn',hfn',_,_,_,_,hval⟩:=hok;have e:fn'=fn:=Option.some.inj (hfn'.symm.trans hfn);subst e;obtain⟨⟨⟨ds,gs,before,hw,hc⟩,hx⟩,hz⟩:=hpre;have hw':=DataW.Whole.of_heap (w':=w.forCall tape i) (by rfl) hw
 refine(contract (w.forCall tape i) w.heap.size i.args ds gs before hval hw' hc (hz.weights hw) (hX _ _ _ (by rfl) hx) hsh hholds).mono fun e W' ⟨v,he,hp⟩=>?_
 subst he;exact ChangeSpec.post_blind hp
end Go.Proofs.YtbnodhcijeaceaaGreatDoor

/- Types that are held against each other (package infer), as plain functions by ticks. -/
import Derived.Test.YtbnodhcijeaceaaGreatDoorZJa
set_option linter.all false
set_option maxHeartbeats 4000000
set_option maxRecDepth 100000
namespace Go.Proofs.YtbnodhcijeaceaaGreatDoor
open Go Go.Am Go.Gw
section
variable(E:Nv)(n:Nat)(I:List Tm→Tm→M Tm)
noncomputable def levB(x:Tm):M Lv:=bnd (j1K E n x) fun s=>bnd (j2P (decide (s.kind=2)) 19) fun _=>mok s.lv
noncomputable def j7B(ctx:List Tm)(t:Tm):M Lv:=bnd (I ctx t) fun x=>levB E n x
noncomputable def ja8(ctx:List Tm)(t typ:Tm):M Unit:=bnd (I ctx t) fun a=>bnd (j4r E n ctx a typ) fun ok=>j2P ok 18
noncomputable def jtB(ctx:List Tm)(t:Tm):M Tm:=bnd (I ctx (t.arg 0)) fun y=>bnd (j1K E n y) fun f=>bnd (j2P (decide (f.kind=6)) 20) fun _=>bnd (ja8 E n I ctx (t.arg 1) (f.arg 0)) fun _=>j4n (InstF (f.arg 1) [t.arg 1])
def jag(ctx:List Tm)(t body:Tm):M Tm:=bnd (j7w ctx t) fun c2=>I c2 body
noncomputable def jtD(ctx:List Tm)(t:Tm):M Tm:=bnd (j7B E n I ctx (t.arg 0)) fun _=>bnd (jag I ctx (t.arg 0) (t.arg 1)) fun b=>j4n (some (overR 6 [t.arg 0] b))
noncomputable def ipiB(ctx:List Tm)(t:Tm):M Tm:=bnd (j7B E n I ctx (t.arg 0)) fun l=>bnd (bnd (jag I ctx (t.arg 0) (t.arg 1)) fun b=>levB E n b) fun m=>bnd (j5j (j9s l m)) fun x=>mok (jau x)
noncomputable def jtE(ctx:List Tm)(t:Tm):M Tm:=bnd (j7B E n I ctx (t.arg 0)) fun _=>bnd (ja8 E n I ctx (t.arg 1) (t.arg 0)) fun _=>bnd (j4n (InstF (t.arg 2) [t.arg 1])) fun b=>I ctx b
noncomputable def jaf(ctx:List Tm)(t:Tm):M Tm:=
 if t.kind=4 then jtB E n I ctx t else if t.kind=5 then jtD E n I ctx t else if t.kind=6 then ipiB E n I ctx t else if t.kind=7 then jtE E n I ctx t else j7y E n ctx t
noncomputable def jk3(ctx:List Tm)(t:Tm):M Tm:=bnd j4o fun _=>jaf E n I ctx t
end
noncomputable def j1I(E:Nv)(n:Nat):List Tm→Tm→M Tm:=Nat.rec (motive:=fun _=>List Tm→Tm→M Tm) (fun _ _ _=>none) (fun m I ctx t=>jk3 E m I ctx t) n
theorem jiE(E:Nv)(n:Nat)(ctx:List Tm)(t:Tm):j1I E (n+1) ctx t=jk3 E n (j1I E n) ctx t:=rfl
noncomputable def j2N(E:Nv)(n:Nat)(ctx:List Tm)(t:Tm):M Tm:=bnd (j2P (j1h ctx [t]) 10) fun _=>j1I E n ctx t
noncomputable def jst(E:Nv)(n:Nat)(ctx:List Tm)(t:Tm):M Lv:=bnd (j2N E n ctx t) fun x=>levB E n x
noncomputable def jiD(E:Nv)(n:Nat)(ctx:List Tm)(t typ:Tm):M Unit:=bnd (j2N E n ctx t) fun a=>bnd (j4r E n ctx a typ) fun ok=>j2P ok 18
noncomputable def jtC(E:Nv)(n:Nat)(c:List Tm):List Tm→M Unit
 |[]=>mok ()
 |t::r=>bnd (j7B E n (j1I E n) c t) fun _=>jtC E n (c++[t]) r
noncomputable def j8C(E:Nv)(n:Nat)(ctx:List Tm):M Unit:=bnd (j2P (j1h ctx []) 10) fun _=>jtC E n [] ctx
section
variable{E:Nv}{n m:Nat}{I J:List Tm→Tm→M Tm}
theorem j6W(c:List Tm)(t:Tm):Fine (j7y E n c t):=j03 (j0l (by omega)) fun _=>j0r n c t
theorem j3Q(c:List Tm)(a b:Tm):Fine (j4r E n c a b):=j03 (j0l (by omega)) fun _=>j1X n c a b
theorem jez(x:Tm):Fine (levB E n x):=j03 (j0i n x) fun _=>j03 (j0l (by omega)) fun _=>j0j _
theorem j1M(h:∀c t,Fine (I c t))(c:List Tm)(t:Tm):Fine (j7B E n I c t):=j03 (h c t) fun _=>jez _
theorem j4P(h:∀c t,Fine (I c t))(c:List Tm)(t u:Tm):Fine (ja8 E n I c t u):=j03 (h c t) fun _=>j03 (j3Q _ _ _) fun _=>j0l (by omega)
theorem j3b(h:∀c t,Fine (I c t))(c:List Tm)(t u:Tm):Fine (jag I c t u):=j03 (j1H _ _) fun _=>h _ _
theorem jbx(h:∀c t,Fine (I c t))(c:List Tm)(t:Tm):Fine (jaf E n I c t):=by
 unfold jaf;split
 ·exact j03 (h _ _) fun _=>j03 (j0i n _) fun _=>j03 (j0l (by omega)) fun _=>j03 (j4P h _ _ _) fun _=>j1b _
 split
 ·exact j03 (j1M h _ _) fun _=>j03 (j3b h _ _ _) fun _=>j1b _
 split
 ·exact j03 (j1M h _ _) fun _=>j03 (j03 (j3b h _ _ _) fun _=>jez _) fun _=>j03 (j4Q _) fun _=>j0j _
 split
 ·exact j03 (j1M h _ _) fun _=>j03 (j4P h _ _ _) fun _=>j03 (j1b _) fun _=>h _ _
 ·exact j6W _ _
theorem j0G:∀(n:Nat) (c:List Tm) (t:Tm),Fine (j1I E n c t)
 |0,_,_=>j8y
 |n+1,c,t=>j03 j4b fun _=>jbx (j0G n) c t
theorem jkd(h:n≤m)(c:List Tm)(t:Tm):Le (j7y E n c t) (j7y E m c t):=Le.bnd (Le.refl _) fun _=>jdt h c t
theorem jkc(h:n≤m)(c:List Tm)(a b:Tm):Le (j4r E n c a b) (j4r E m c a b):=Le.bnd (Le.refl _) fun _=>jbI h c a b
theorem jow(h:n≤m)(x:Tm):Le (levB E n x) (levB E m x):=Le.bnd (j6t h x) fun _=>Le.refl _
theorem jaF(h:n≤m)(hI:∀c t,Le (I c t) (J c t))(c:List Tm)(t:Tm):Le (j7B E n I c t) (j7B E m J c t):=Le.bnd (hI c t) fun _=>jow h _
theorem jeQ(h:n≤m)(hI:∀c t,Le (I c t) (J c t))(c:List Tm)(t u:Tm):Le (ja8 E n I c t u) (ja8 E m J c t u):=Le.bnd (hI c t) fun _=>Le.bnd (jkc h _ _ _) fun _=>Le.refl _
theorem jeS(hI:∀c t,Le (I c t) (J c t))(c:List Tm)(t u:Tm):Le (jag I c t u) (jag J c t u):=Le.bnd (Le.refl _) fun _=>hI _ _
theorem jov(h:n≤m)(hI:∀c t,Le (I c t) (J c t))(c:List Tm)(t:Tm):Le (jaf E n I c t) (jaf E m J c t):=by
 unfold jaf;split
 ·exact Le.bnd (hI _ _) fun _=>Le.bnd (j6t h _) fun _=>Le.bnd (Le.refl _) fun _=>Le.bnd (jeQ h hI _ _ _) fun _=>Le.refl _
 split
 ·exact Le.bnd (jaF h hI _ _) fun _=>Le.bnd (jeS hI _ _ _) fun _=>Le.refl _
 split
 ·exact Le.bnd (jaF h hI _ _) fun _=>Le.bnd (Le.bnd (jeS hI _ _ _) fun _=>jow h _) fun _=>Le.refl _
 split
 ·exact Le.bnd (jaF h hI _ _) fun _=>Le.bnd (jeQ h hI _ _ _) fun _=>Le.bnd (Le.refl _) fun _=>hI _ _
 ·exact jkd h _ _
theorem jgZ:∀(n:Nat) (c:List Tm) (t:Tm),Le (j1I E n c t) (j1I E (n+1) c t)
 |0,_,_=>fun _ _ _ h=>by cases h
 |n+1,c,t=>Le.bnd (Le.refl _) fun _=>jov (by omega) (jgZ n) c t
theorem j8F(h:n≤m)(c:List Tm)(t:Tm):Le (j1I E n c t) (j1I E m c t):=jox (x:=fun n=>j1I E n c t) (fun n=>jgZ n c t) h
theorem j7e(c:List Tm)(a b:Tm):Mono fun n=>j4r E n c a b:=fun _ _ h=>jkc h c a b
theorem jaI(x:Tm):Mono fun n=>levB E n x:=fun _ _ h=>jow h x
theorem j4X(c:List Tm)(t:Tm):Mono fun n=>j1I E n c t:=fun _ _ h=>j8F h c t
theorem j9O(c:List Tm)(t:Tm):Mono fun n=>j7B E n (j1I E n) c t:=fun _ _ h=>jaF h (fun c t=>j8F h c t) c t
theorem j4W(c:List Tm)(t u:Tm):Mono fun n=>ja8 E n (j1I E n) c t u:=fun _ _ h=>jeQ h (fun c t=>j8F h c t) c t u
theorem j4Y(c:List Tm)(t u:Tm):Mono fun n=>jag (j1I E n) c t u:=fun _ _ h=>jeS (fun c t=>j8F h c t) c t u
end
section
variable{E:Nv}{q:Int}
theorem jpw(hE:NvOk E)(q:Int)(c:List Tm)(a b:Tm):TotU (fun n=>j1T E n c a b) q:=fun l h0 h1=>jrR hE q.toNat c a b l h0 (by omega)
theorem jgi(hE:NvOk E)(q:Int)(c:List Tm)(t:Tm):TotU (fun n=>j7y E n c t) q:=TotU.pre (fun l=>j1z _ _ l) (j0l (by omega)) fun _=>jaV hE q c t
theorem jgh(hE:NvOk E)(q:Int)(c:List Tm)(a b:Tm):TotU (fun n=>j4r E n c a b) q:=TotU.pre (fun l=>j1z _ _ l) (j0l (by omega)) fun _=>jpw hE q c a b
theorem joE(hE:NvOk E)(q:Int)(x:Tm):TotU (fun n=>levB E n x) q:=TotU.bnd (j7n hE _ x) (fun n=>j0i n x) (j1J x) (fun s=>TotU.pre (fun l=>j1z _ _ l) (j0l (by omega)) fun _=>j1r _) (fun s=>j0E _)
theorem jor(hE:NvOk E)(hI:∀c t,TotU (fun n=>j1I E n c t) q)(c:List Tm)(t:Tm):TotU (fun n=>j7B E n (j1I E n) c t) q:=TotU.bnd (hI c t) (fun n=>j0G n c t) (j4X c t) (fun x=>joE hE q x) (fun x=>jaI x)
theorem jnq(hE:NvOk E)(hI:∀c t,TotU (fun n=>j1I E n c t) q)(c:List Tm)(t u:Tm):TotU (fun n=>ja8 E n (j1I E n) c t u) q:=TotU.bnd (hI c t) (fun n=>j0G n c t) (j4X c t) (fun x=>TotU.bnd (jgh hE q c x u) (fun n=>j3Q c x u) (j7e c x u) (fun ok=>j2S fun l=>j1z _ _ l) (fun ok=>j0E _)) (fun x=>j1j (j7e c x u) fun ok=>j0E _)
theorem jos(hI:∀c t,TotU (fun n=>j1I E n c t) q)(c:List Tm)(t u:Tm):TotU (fun n=>jag (j1I E n) c t u) q:=TotU.pre (fun l=>j9l _ _ l) (j1H _ _) fun c2=>hI c2 u
theorem jof(hE:NvOk E):∀(q:Nat) (c:List Tm) (t:Tm),TotU (fun n=>j1I E n c t) q:=by
 intro q
 induction q using Nat.strongRecOn with
 |_ q ih=>
 intro c t l h0 h1;refine Tot.succ (fun n=>jiE E n c t) ?_
 refine TotU.tick (q:=q) ?_ l h0 h1
 intro l h0 h1;have hI:∀c t,TotU (fun n=>j1I E n c t) ((q:Int)-1):=fun c t=>by
  have:=ih (q-1) (by omega) c t
  rwa [show((q-1:Nat):Int)=(q:Int)-1 by omega] at this
 have hS:=jor hE hI;have hC:=jnq hE hI;have hW:=jos hI;revert l;show TotU _ _
 unfold jaf
 by_cases c1:t.kind=4
 ·simp only[if_pos c1];exact TotU.bnd (hI _ _) (fun n=>j0G n _ _) (j4X _ _) (fun y=>TotU.bnd (j7n hE _ y) (fun n=>j0i n y) (j1J y) (fun f=>TotU.pre (fun l=>j1z _ _ l) (j0l (by omega)) fun _=>TotU.bnd (hC _ _ _) (fun n=>j4P (j0G n) _ _ _) (j4W _ _ _) (fun _=>j2S fun l=>j3J _ _) (fun _=>j0E _)) (fun f=>j1j (j0E _) fun _=>j1j (j4W _ _ _) fun _=>j0E _)) (fun y=>j1j (j1J y) fun f=>j1j (j0E _) fun _=>j1j (j4W _ _ _) fun _=>j0E _)
 simp only[if_neg c1]
 by_cases c2:t.kind=5
 ·simp only[if_pos c2];exact TotU.bnd (hS _ _) (fun n=>j1M (j0G n) _ _) (j9O _ _) (fun _=>TotU.bnd (hW _ _ _) (fun n=>j3b (j0G n) _ _ _) (j4Y _ _ _) (fun b=>j2S fun l=>j3J _ _) (fun b=>j0E _)) (fun _=>j1j (j4Y _ _ _) fun b=>j0E _)
 simp only[if_neg c2]
 by_cases c3:t.kind=6
 ·simp only[if_pos c3];exact TotU.bnd (hS _ _) (fun n=>j1M (j0G n) _ _) (j9O _ _) (fun a=>TotU.bnd (TotU.bnd (hW _ _ _) (fun n=>j3b (j0G n) _ _ _) (j4Y _ _ _) (fun b=>joE hE _ b) (fun b=>jaI b)) (fun n=>j03 (j3b (j0G n) _ _ _) fun _=>jez _) (j1j (j4Y _ _ _) fun b=>jaI b) (fun m=>j2S fun l=>j3B (jch _ _) fun _ _=>⟨_,_,rfl⟩) (fun m=>j0E _)) (fun a=>j1j (j1j (j4Y _ _ _) fun b=>jaI b) fun m=>j0E _)
 simp only[if_neg c3]
 by_cases c4:t.kind=7
 ·simp only[if_pos c4];exact TotU.bnd (hS _ _) (fun n=>j1M (j0G n) _ _) (j9O _ _) (fun a=>TotU.bnd (hC _ _ _) (fun n=>j4P (j0G n) _ _ _) (j4W _ _ _) (fun _=>TotU.pre (fun l=>j3J _ _) (j1b _) fun b=>hI _ _) (fun _=>j1j (j0E _) fun b=>j4X _ _)) (fun a=>j1j (j4W _ _ _) fun _=>j1j (j0E _) fun b=>j4X _ _)
 simp only[if_neg c4];exact jgi hE _ _ _
theorem jlL(hE:NvOk E)(q:Int)(c:List Tm)(t:Tm):TotU (fun n=>j1I E n c t) q:=fun l h0 h1=>jof hE q.toNat c t l h0 (by omega)
end
open Go Go.Am Go.Gw
abbrev xI:PV:=.ci [.ci [.bp 0 0]]
def IrT(f:FuncId)(args cs:List PV)(tot l:Int)(r:Except Int Tm)(l':Int):Prop:=match r with
 | .ok x=>(shT x=true∧sizT x≤2000)∧∃w,TmP x w∧Fr f args cs tot l (.ret [w,iv 0]) l'
 | .error e=>¬e=0∧Fr f args cs tot l (.ret [.ag zTm,iv e]) l'
def IrL(f:FuncId)(args cs:List PV)(tot l:Int)(r:Except Int Lv)(l':Int):Prop:=match r with
 | .ok x=>∃w,LvP x w∧Fr f args cs tot l (.ret [w,iv 0]) l'
 | .error e=>¬e=0∧Fr f args cs tot l (.ret [.ag zLv,iv e]) l'
def IrU(f:FuncId)(args cs:List PV)(tot l:Int)(r:Except Int Unit)(l':Int):Prop:=match r with
 | .ok _=>Fr f args cs tot l (.ret [iv 0]) l'
 | .error e=>¬e=0∧Fr f args cs tot l (.ret [iv e]) l'
def jcH(cs:List PV)(tot:Int)(I:List Tm→Tm→M Tm):Prop:=∀ctx cv,CtxP ctx cv→∀t v,TmP t v→shT t=true→∀l r l',0≤l→l≤tot→I ctx t l=some (r,l')→IrT 68 [xI,cv,v] cs tot l r l'
theorem kids{t:Tm}{v:PV}(h:TmP t v)(hs:shT t=true):∃n s b z xs c y ys,v=.ag [iv t.kind,iv n,sv s,.sl b z xs,.sl c y ys]∧(y=5∨ys=[])∧∀i:Nat,(i:Int)<j0I t.kind→∃a,ys[i]?=some a∧TmP (t.arg i) a∧shT (t.arg i)=true:=by
 obtain⟨k1,n1,s1,l1,t1,b1,z1,x1,c1,y1,ys1,rfl,rfl,hz1,hx1,-,-,hy1,hys1,-⟩:=h.open;obtain⟨a1,a2,a3,a4,a5,a6⟩:=j0w hs;refine⟨_,_,_,_,_,_,_,_,rfl,hy1,fun i hi=>?_⟩
 have hi':(i:Int)<j0I k1:=hi;have hg:=getD_at (ts:=t1) (i:=i) (by omega)
 obtain⟨a,ha,hp⟩:=hys1.at hg;exact⟨a,ha,hp,a5 _ (List.mem_of_getElem? hg)⟩
theorem jgW(cs:List PV)(tot l:Int):Fr 65 [.bp 0 0] cs tot l (.ret [xI]) l:=by
 have hc:=jbf cs tot l;refine j00 Tryz.func65 rfl rfl rfl ?_;repeat'(first|refine gW hc ?_)<;>conv=>whnf
 show VRet C1 _ 1 [.bp 1 0] [runB cs tot l,.box 112 [.ci [.bp 0 0]]] _
 exact j1G (.inr ⟨rfl,rfl⟩) rfl rfl rfl ⟨rfl,rfl⟩
theorem jbB(cs:List PV)(tot l:Int):Fr 20 [xI] cs tot l (.ret [.ci [.bp 0 0]]) l:=by
 refine j00 Tryz.func20 rfl rfl rfl ?_;all_goals try conv=>whnf
 all_goals first|exact⟨rfl,rfl⟩|skip
 show VRet C1 _ 1 [.ci [.bp 0 0]] [.box 104 [.cp cs,iv (tot-l),iv l]] _
 exact j1G (.inr ⟨rfl,rfl⟩) rfl rfl rfl ⟨rfl,rfl⟩
theorem j9L(t:Tm)(v:PV)(h:TmP t v)(b:Bool)(z:Nat)(xs:List PV)(n:Nat)(hn:xs.length=n):Pf C1 67 [.sl b z xs,v] [bv (j0N t 4 n)]:=by
 have hr:=j1a t v h 4 n;subst hn;cases h.c;refine j00 Tryz.func67 rfl rfl rfl ?_;repeat'(first|refine gU ?_|refine gX hr ?_)<;>conv=>whnf
 all_goals rfl
theorem j7M(ctx:List Tm)(b:Bool)(z:Nat)(xs:List PV)(hz:z=5∨xs=[])(hxs:TmsP ctx xs):Pf C1 66 [.sl b z xs] [bv (j1h ctx [])]:=by
 have hlen:=hxs.len;have he:j1h ctx []=(decide (ctx.length≤64)&&ctxF ctx 0):=by
  unfold j1h;simp
 rw[he];refine j00 Tryz.func66 rfl rfl rfl ?_;repeat'(first|refine gU ?_|apply gE<;>intro h)<;>conv=>whnf
 ·refine j2t ?_;rw[decide_eq_false (by omega)]
  rfl
 rw[decide_eq_true (by omega:ctx.length≤64)]
 refine j04 (G:=Nat) (fun i=>[(10,iv i)]) (fun _=>_) (fun i=>i≤ctx.length∧ctxF (ctx.drop i) i=ctxF ctx 0) (fun i=>ctx.length-i) 0 ⟨by omega,rfl⟩ rfl rfl ?_
 rintro i ⟨hi,hall⟩;dsimp only at hi hall⊢;repeat'(first|refine gU ?_|apply gE<;>intro h)<;>conv=>whnf
 ·have hi':i<ctx.length:=by omega
  obtain⟨tc,htc⟩:∃tc,ctx[i]?=some tc:=⟨_,List.getElem?_eq_getElem hi'⟩;obtain⟨v,hv,hl⟩:=hxs.at htc;have hw:=j9L tc v hl (b&&Nat.beq i xs.length) z ((xs.take i).drop 0) i (by simp;omega)
  have hle:(i.ble xs.length&&Nat.ble 0 i)=true:=by simp only[Nat.ble_eq,Bool.and_eq_true];omega
  cases hl.c;rw[jgs htc] at hall;repeat'(first|refine gU ?_|apply gM<;>intro h|refine VIdx.mk _ hv ?_|refine gZ hz ?_|refine VOk.mk hle ?_|refine j01 hw fun _=>?_|apply gK)<;>conv=>whnf
  ·have hr:j0N tc 4 i=true:=by assumption
   rw[hr,Bool.true_and] at hall;exact VAgain.mk _ rfl _ (j0b rfl rfl rfl) ⟨i+1,⟨hi',hall⟩,by omega,rfl⟩
  ·have hr:j0N tc 4 i=false:=by assumption
   rw[hr,Bool.false_and] at hall;rw[←hall];rfl
 ·have hl:i=ctx.length:=by omega
  subst hl;rw[List.drop_length] at hall;refine j2t ?_;rw[←hall];simp[ctxF]
theorem jop(t:Tm)(v:PV)(h:TmP t v):Pf C1 180 [v,bv false] [.ag zTm,iv 15]:=by
 cases h.c;refine j00 Tryz.func180 rfl rfl rfl ?_;repeat'(refine gU ?_)<;>conv=>whnf
 all_goals rfl
theorem joq(t:Tm)(v:PV)(h:TmP t v)(hn:j0A t≤2000):Pf C1 180 [v,bv true] [v,iv 0]:=by
 have h1:=j2h t v h;cases h.c;refine j00 Tryz.func180 rfl rfl rfl ?_;repeat'(first|refine gU ?_|apply gE<;>intro h|refine gX h1 ?_)<;>conv=>whnf
 all_goals first|rfl|(exfalso;omega)
theorem jlN(t:Tm)(v:PV)(h:TmP t v)(hn:¬j0A t≤2000):Pf C1 180 [v,bv true] [.ag zTm,iv 15]:=by
 have h1:=j2h t v h;cases h.c;refine j00 Tryz.func180 rfl rfl rfl ?_;repeat'(first|refine gU ?_|apply gE<;>intro h|refine gX h1 ?_)<;>conv=>whnf
 all_goals first|rfl|(exfalso;omega)
variable{l l':Int}{E:Nv}{α:Type}
theorem j8D(o:Option Tm)(wo:PV)(h:TmP (o.getD tz) wo){r:Except Int Tm}(hx:j4n o l=some (r,l')):l'=l∧match r with
  | .ok x=>o=some x∧sizT x≤2000∧Pf C1 180 [wo,bv o.isSome] [wo,iv 0]
  | .error e=>e=15∧Pf C1 180 [wo,bv o.isSome] [.ag zTm,iv 15]:=by
 cases o with
 |none=>
  cases hx;exact⟨rfl,rfl,jop _ _ h⟩
 |some x=>
  simp only[j4n,bnd,optF,mok] at hx
  by_cases hn:j0A x≤2000
  ·rw[decide_eq_true hn] at hx;cases hx;exact⟨rfl,rfl,j1C hn,joq _ _ h hn⟩
  ·rw[decide_eq_false hn] at hx;cases hx;exact⟨rfl,rfl,jlN _ _ h hn⟩
theorem j9M(cs:List PV)(tot l:Int)(k n:Int)(s:List UInt8)(b:Bool)(z:Nat)(xs:List PV)(c:Bool)(y:Nat)(ys:List PV)(e:Int)(he:¬e=0):Fr 108 [xI,.ag [iv k,iv n,sv s,.sl b z xs,.sl c y ys],iv e] cs tot l (.ret [.ag zLv,iv e]) l:=by
 refine j00 Tryz.func108 rfl rfl rfl ?_;repeat'(refine gU ?_)<;>conv=>whnf
 all_goals exact gJ
theorem j5I(E:Nv)(cs:List PV)(hE:NvP E (.cp cs))(tot:Int)(ht:tot≤1048576)(n:Nat)(x:Tm)(v:PV)(h:TmP x v)(l:Int)(r:Except Int Lv)(l':Int)(h0:0≤l)(h1:l≤tot)(hx:levB E n x l=some (r,l')):IrL 108 [xI,v,iv 0] cs tot l r l':=by
 have hr:=j1V cs tot l;have hv:=h;cases h.c;unfold levB at hx;rcases j06 hx with⟨e,q1,rfl⟩|⟨s,la,q1,q2⟩
 ·have he:¬e=0:=fun e0=>by
   subst e0;exact(j0i (E:=E) n x).nz _ _ q1
  obtain⟨-,hf⟩:=j8b E cs hE tot ht n x _ hv l _ l' h0 h1 q1;simp only[errV] at hf;refine⟨he,?_⟩;refine j00 Tryz.func108 rfl rfl rfl ?_;repeat'(first|refine gU ?_|refine gW hr ?_|refine gW hf ?_|apply gK)<;>conv=>whnf
  all_goals exact gJ
 obtain⟨hs,hf⟩:=j8b E cs hE tot ht n x _ hv l _ la h0 h1 q1;obtain⟨hs1,hs2,hsw⟩:=hs s rfl;simp only[errV] at hf;unfold TmW at hsw;generalize encT s=ws at *;obtain⟨k3,n3,s3,l3,t3,b3,z3,x3,c3,y3,ys3,e3,rfl,hz3,hx3,-⟩:=hsw.open;subst e3;have ek:(Tm.mk k3 n3 s3 l3 t3).kind=k3:=rfl;rw[ek] at q2
 by_cases hk3:k3=2
 ·rw[decide_eq_true hk3] at q2;cases q2;have hln:l3.length=1:=by
   have:=(j0w hs1).2.2.2.1 (by omega)
   subst hk3;have e:j0H 2=1:=rfl;omega
  obtain⟨vl,hvl,hl⟩:=hx3.at (show l3[0]?=some (l3.getD 0 (.mk 0 0 [])) by rw[List.getD_eq_getElem?_getD,List.getElem?_eq_getElem (by omega)];rfl)
  refine⟨vl,hl,?_⟩;cases hl.c;subst hk3;refine j00 Tryz.func108 rfl rfl rfl ?_;repeat'(first|refine gU ?_|refine gW hr ?_|refine gW hf ?_|refine VIdx.mk _ hvl ?_|refine gZ hz3 ?_|apply gK)<;>conv=>whnf
  all_goals exact gJ
 ·rw[decide_eq_false hk3] at q2;cases q2;refine⟨by omega,?_⟩
  refine j00 Tryz.func108 rfl rfl rfl ?_;repeat'(first|refine gU ?_|refine gW hr ?_|refine gW hf ?_|apply gK)<;>conv=>whnf
  all_goals exact gJ
open Go Go.Am Go.Gw
section
variable{E:Nv}{cs:List PV}{tot:Int}{n:Nat}{I:List Tm→Tm→M Tm}
theorem j3w(hE:NvP E (.cp cs))(ht:tot≤1048576)(hI:jcH cs tot I)(fI:∀c t,Fine (I c t))(ctx:List Tm)(cv:PV)(hc:CtxP ctx cv)(t:Tm)(v:PV)(h:TmP t v)(hs:shT t=true)(l:Int)(r:Except Int Lv)(l':Int)(h0:0≤l)(h1:l≤tot)(hx:j7B E n I ctx t l=some (r,l')):IrL 109 [xI,cv,v] cs tot l r l':=by
 have hc':=hc;obtain⟨b,z,xs,rfl,-⟩:=hc';have h':=h;cases h'.c;rcases j06 hx with⟨e,q1,rfl⟩|⟨x,la,q1,q2⟩
 ·obtain⟨he,hf⟩:=hI ctx _ hc t _ h hs l _ l' h0 h1 q1;have hl:=j9M cs tot l' 0 0 [] true 0 [] true 0 [] e he;refine⟨he,?_⟩;refine j00 Tryz.func109 rfl rfl rfl ?_;repeat'(first|refine gU ?_|refine gW hf ?_|refine gW hl ?_)<;>conv=>whnf
  all_goals exact gJ
 ·obtain⟨-,w,hw,hf⟩:=hI ctx _ hc t _ h hs l _ la h0 h1 q1;have hla:=(fI ctx t).dn l _ la h0 q1;have hl:=j5I E cs hE tot ht n x w hw la r l' (by omega) (by omega) q2
  cases hw.c;cases r with
  |error e=>
   obtain⟨he,hl⟩:=hl;refine⟨he,?_⟩;refine j00 Tryz.func109 rfl rfl rfl ?_;repeat'(first|refine gU ?_|refine gW hf ?_|refine gW hl ?_)<;>conv=>whnf
   all_goals exact gJ
  |ok y=>
   obtain⟨wy,hwy,hl⟩:=hl;refine⟨wy,hwy,?_⟩;cases hwy.c;refine j00 Tryz.func109 rfl rfl rfl ?_;repeat'(first|refine gU ?_|refine gW hf ?_|refine gW hl ?_)<;>conv=>whnf
   all_goals exact gJ
theorem j7a(hE:NvP E (.cp cs))(ht:tot≤1048576)(hI:jcH cs tot I)(fI:∀c t,Fine (I c t))(ctx:List Tm)(cv:PV)(hc:CtxP ctx cv)(t:Tm)(v:PV)(h:TmP t v)(hs:shT t=true)(u:Tm)(uv:PV)(hu:TmP u uv)(l:Int)(r:Except Int Unit)(l':Int)(h0:0≤l)(h1:l≤tot)(hx:ja8 E n I ctx t u l=some (r,l')):IrU 179 [xI,cv,v,uv] cs tot l r l':=by
 have hc':=hc;obtain⟨b,z,xs,rfl,hz,hxs,h64,-⟩:=hc';have h':=h;have hu':=hu;cases h'.c;cases hu'.c;rcases j06 hx with⟨e,q1,rfl⟩|⟨a,la,q1,q2⟩
 ·obtain⟨he,hf⟩:=hI ctx _ hc t _ h hs l _ l' h0 h1 q1;refine⟨he,?_⟩;refine j00 Tryz.func179 rfl rfl rfl ?_;repeat'(first|refine gU ?_|refine gW hf ?_)<;>conv=>whnf
  all_goals exact gJ
 obtain⟨-,w,hw,hf⟩:=hI ctx _ hc t _ h hs l _ la h0 h1 q1;have hla:=(fI ctx t).dn l _ la h0 q1;have hw':=hw;cases hw'.c;rcases j06 q2 with⟨e,q3,rfl⟩|⟨ok,lb,q3,q4⟩
 ·have he:¬e=0:=fun e0=>by
   subst e0;exact(j3Q (E:=E) (n:=n) ctx a u).nz _ _ q3
  have hg:=j2p E cs hE tot ht n ctx b z xs hz hxs (by omega) a _ hw u _ hu la _ l' (by omega) (by omega) q3
  simp only[errB] at hg;refine⟨he,?_⟩;refine j00 Tryz.func179 rfl rfl rfl ?_;repeat'(first|refine gU ?_|refine gW hf ?_|refine gW hg ?_|apply gK)<;>conv=>whnf
  all_goals exact gJ
 have hg:=j2p E cs hE tot ht n ctx b z xs hz hxs (by omega) a _ hw u _ hu la _ lb (by omega) (by omega) q3
 simp only[errB] at hg;cases ok with
 |true=>
  cases q4;show Fr _ _ _ _ _ (.ret [iv 0]) _
  refine j00 Tryz.func179 rfl rfl rfl ?_;repeat'(first|refine gU ?_|refine gW hf ?_|refine gW hg ?_|apply gK)<;>conv=>whnf
  all_goals exact gJ
 |false=>
  cases q4;refine⟨by omega,?_⟩
  refine j00 Tryz.func179 rfl rfl rfl ?_;repeat'(first|refine gU ?_|refine gW hf ?_|refine gW hg ?_|apply gK)<;>conv=>whnf
  all_goals exact gJ
theorem jsw(ctx:List Tm)(b:Bool)(z:Nat)(xs:List PV)(hz:z=5∨(xs=[]∧b=true∧z=0))(hxs:TmsP ctx xs)(hl:ctx.length<64)(k1 n1:Int)(s1:List UInt8)(b1:Bool)(z1:Nat)(x1:List PV)(c1:Bool)(y1:Nat)(ys1:List PV)(hp6:(xs++[PV.ag [iv k1,iv n1,sv s1,.sl b1 z1 x1,.sl c1 y1 ys1]]).all (pur 6)=true)(k2 n2:Int)(s2:List UInt8)(b2:Bool)(z2:Nat)(x2:List PV)(c2:Bool)(y2:Nat)(ys2:List PV)(l l':Int)(k3 n3:Int)(s3:List UInt8)(b3:Bool)(z3:Nat)(x3:List PV)(c3:Bool)(y3:Nat)(ys3:List PV)(e:Int)
  (hf:Fr 68 [xI,.sl false 5 (xs++[.ag [iv k1,iv n1,sv s1,.sl b1 z1 x1,.sl c1 y1 ys1]]),.ag [iv k2,iv n2,sv s2,.sl b2 z2 x2,.sl c2 y2 ys2]] cs tot l (.ret [.ag [iv k3,iv n3,sv s3,.sl b3 z3 x3,.sl c3 y3 ys3],iv e]) l') :
  Fr 181 [xI,.sl b z xs,.ag [iv k1,iv n1,sv s1,.sl b1 z1 x1,.sl c1 y1 ys1],.ag [iv k2,iv n2,sv s2,.sl b2 z2 x2,.sl c2 y2 ys2]] cs tot l (.ret [.ag [iv k3,iv n3,sv s3,.sl b3 z3 x3,.sl c3 y3 ys3],iv e]) l':=by
 have hlen:=hxs.len;have ho1:(xs.length.ble xs.length&&Nat.ble 0 xs.length)=true:=by simp
 have ho2:Nat.beq xs.length xs.length=true:=by simp
 generalize hX:xs++[.ag [iv k1,iv n1,sv s1,.sl b1 z1 x1,.sl c1 y1 ys1]]=X at hf hp6;have hx:(xs.take xs.length).drop 0++[.ag [iv k1,iv n1,sv s1,.sl b1 z1 x1,.sl c1 y1 ys1]]=X:=by rw[List.take_length,←hX];rfl
 have hXl:X.length=xs.length+1:=by rw[←hX];simp
 rcases hz with rfl|⟨rfl,rfl,rfl⟩
 ·refine j00 Tryz.func181 rfl rfl rfl ?_;repeat'(first|refine gU ?_|apply gE<;>intro h|refine VOk.mk ho1 ?_|refine VOk.mk ho2 ?_|refine VOk.mk (j6Z (w:=80) (r:=140737488355328) rfl rfl rfl (by simp;omega) (by simp;omega)) ?_|apply gK)<;>conv=>whnf
  ·exfalso;omega
  refine j9h (st1:=[runB cs tot l,.box 25 [iv k1,iv n1,sv s1,.sl b1 z1 x1,.sl c1 y1 ys1],.box 25 [iv k2,iv n2,sv s2,.sl b2 z2 x2,.sl c2 y2 ys2],.box 25 zTm,.row true 25 5 X]) (args':=[xI,.sl false 5 X,.ag [iv k2,iv n2,sv s2,.sl b2 z2 x2,.sl c2 y2 ys2]]) ?_ hf rfl rfl rfl rfl rfl rfl ?_
  ·show mapS (pubV C1 8) _ _=_
   refine j05 rfl ?_;refine j05 (j0P (b:=false) (T:=25) (z:=5) (xs:=X) ?_ ?_ hp6) ?_
   ·rw[←hx];rfl
   ·rw[hXl];simp
   ·exact j05 rfl j0p
  repeat'(refine gU ?_)<;>conv=>whnf
  all_goals exact gJ
 ·refine j00 Tryz.func181 rfl rfl rfl ?_;repeat'(first|refine gU ?_|apply gK)<;>conv=>whnf
  refine j9h (st1:=[runB cs tot l,.box 25 [iv k1,iv n1,sv s1,.sl b1 z1 x1,.sl c1 y1 ys1],.box 25 [iv k2,iv n2,sv s2,.sl b2 z2 x2,.sl c2 y2 ys2],.box 25 zTm,.row true 25 5 X]) (args':=[xI,.sl false 5 X,.ag [iv k2,iv n2,sv s2,.sl b2 z2 x2,.sl c2 y2 ys2]]) ?_ hf rfl rfl rfl rfl rfl rfl ?_
  ·show mapS (pubV C1 8) _ _=_
   refine j05 rfl ?_;refine j05 (j0P (b:=false) (T:=25) (z:=5) (xs:=X) ?_ ?_ hp6) ?_
   ·rw[←hx];rfl
   ·rw[hXl];simp
   ·exact j05 rfl j0p
  repeat'(refine gU ?_)<;>conv=>whnf
  all_goals exact gJ
theorem j6q(hI:jcH cs tot I)(ctx:List Tm)(cv:PV)(hc:CtxP ctx cv)(t:Tm)(v:PV)(h:TmP t v)(hs:shT t=true)(u:Tm)(uv:PV)(hu:TmP u uv)(su:shT u=true)(l:Int)(r:Except Int Tm)(l':Int)(h0:0≤l)(h1:l≤tot)(hx:jag I ctx t u l=some (r,l')):IrT 181 [xI,cv,v,uv] cs tot l r l':=by
 have hc':=hc;obtain⟨b,z,xs,rfl,hz,hxs,h64,hsh⟩:=hc';have hlen:=hxs.len;have h':=h;have hu':=hu;obtain⟨k1,n1,s1,l1,t1,b1,z1,x1,c1,y1,ys1,-,rfl,-⟩:=h'.open;cases hu'.c;rcases j06 hx with⟨e,q1,rfl⟩|⟨c2',la,q1,q2⟩
 ·unfold j7w at q1
  by_cases hl:ctx.length<64
  ·rw[decide_eq_true hl] at q1;cases q1
  ·rw[decide_eq_false hl] at q1;cases q1;refine⟨by omega,?_⟩
   refine j00 Tryz.func181 rfl rfl rfl ?_;repeat'(first|refine gU ?_|apply gE<;>intro h)<;>conv=>whnf
   all_goals exact gJ
 unfold j7w at q1
 by_cases hl:ctx.length<64
 rotate_left
 ·rw[decide_eq_false hl] at q1;cases q1
 rw[decide_eq_true hl] at q1;cases q1;have ha:TmsP (ctx++[t]) (xs++[.ag [iv k1,iv n1,sv s1,.sl b1 z1 x1,.sl c1 y1 ys1]]):=hxs.append ⟨_,[],rfl,h,rfl⟩;have hcx:CtxP (ctx++[t]) (.sl false 5 (xs++[.ag [iv k1,iv n1,sv s1,.sl b1 z1 x1,.sl c1 y1 ys1]])):=⟨_,_,_,rfl,.inl rfl,ha,by simp;omega,fun x hx=>by
  rcases List.mem_append.1 hx with hx|hx
  ·exact hsh x hx
  ·rw[List.mem_singleton.1 hx];exact hs⟩
 have hf:=hI _ _ hcx u _ hu su l r l' h0 h1 q2;cases r with
 |error e=>
  obtain⟨he,hf⟩:=hf;exact⟨he,jsw ctx b z xs hz hxs hl _ _ _ _ _ _ _ _ _ ha.pure6 _ _ _ _ _ _ _ _ _ l l' _ _ _ _ _ _ _ _ _ e hf⟩
 |ok x=>
  obtain⟨hxs2,w,hw,hf⟩:=hf;refine⟨hxs2,w,hw,?_⟩;cases hw.c;exact jsw ctx b z xs hz hxs hl _ _ _ _ _ _ _ _ _ ha.pure6 _ _ _ _ _ _ _ _ _ l l' _ _ _ _ _ _ _ _ _ 0 hf
end
open Go Go.Am Go.Gw
section
variable{E:Nv}{cs:List PV}{tot:Int}{n:Nat}{I:List Tm→Tm→M Tm}
theorem jqF(hE:NvP E (.cp cs))(ht:tot≤1048576)(hI:jcH cs tot I)(fI:∀c t,Fine (I c t))(ctx:List Tm)(cv:PV)(hc:CtxP ctx cv)(t:Tm)(v:PV)(h:TmP t v)(hs:shT t=true)(hk:t.kind=4)(l:Int)(r:Except Int Tm)(l':Int)(h0:0≤l)(h1:l≤tot)(hx:jtB E n I ctx t l=some (r,l')):IrT 111 [xI,cv,v] cs tot l r l':=by
 have hc':=hc;obtain⟨b,z,xs,rfl,-⟩:=hc';obtain⟨n1,s1,b1,z1,x1,c1,y1,ys1,rfl,hy1,hkid⟩:=kids h hs;obtain⟨a0,ha0,p0,i0⟩:=hkid 0 (by rw[hk];decide)
 obtain⟨a1,ha1,p1,i1⟩:=hkid 1 (by rw[hk];decide)
 have p0':=p0;have p1':=p1;cases p0'.c;cases p1'.c;unfold jtB at hx;rcases j06 hx with⟨e,q1,rfl⟩|⟨y,la,q1,q2⟩
 ·obtain⟨he,hf⟩:=hI ctx _ hc _ _ p0 i0 l _ l' h0 h1 q1;refine⟨he,?_⟩;refine j00 Tryz.func111 rfl rfl rfl ?_;repeat'(first|refine gU ?_|refine VIdx.mk _ ha0 ?_|refine gZ hy1 ?_|refine gW hf ?_)<;>conv=>whnf
  all_goals exact gJ
 obtain⟨-,wy,hwy,hf⟩:=hI ctx _ hc _ _ p0 i0 l _ la h0 h1 q1;have hla:=(fI ctx (t.arg 0)).dn l _ la h0 q1;have hr:=j1V cs tot la;have hwy':=hwy;cases hwy'.c;rcases j06 q2 with⟨e,q3,rfl⟩|⟨f,lb,q3,q4⟩
 ·have he:¬e=0:=fun e0=>by
   subst e0;exact(j0i (E:=E) n y).nz _ _ q3
  obtain⟨-,hg⟩:=j8b E cs hE tot ht n y _ hwy la _ l' (by omega) (by omega) q3
  simp only[errV] at hg;refine⟨he,?_⟩;refine j00 Tryz.func111 rfl rfl rfl ?_;repeat'(first|refine gU ?_|refine VIdx.mk _ ha0 ?_|refine gZ hy1 ?_|refine gW hf ?_|refine gW hr ?_|refine gW hg ?_|apply gK)<;>conv=>whnf
  all_goals exact gJ
 obtain⟨hs5,hg⟩:=j8b E cs hE tot ht n y _ hwy la _ lb (by omega) (by omega) q3
 have hlb:=(j0i (E:=E) n y).dn la _ lb (by omega) q3
 obtain⟨j1,j2,hfw⟩:=hs5 f rfl;simp only[errV] at hg;unfold TmW at hfw;generalize encT f=wf at *;obtain⟨n5,s5,b5,z5,x5,c5,y5,ys5,rfl,hy5,hkid5⟩:=kids hfw j1;rcases j06 q4 with⟨e,q5,rfl⟩|⟨u0,lc,q5,q6⟩
 ·obtain⟨rfl,d2⟩:=j0C q5;rcases d2 with⟨-,d2⟩|⟨d1,d2⟩
  ·cases d2
  cases d2;have hne:=of_decide_eq_false d1;refine⟨by omega,?_⟩
  refine j00 Tryz.func111 rfl rfl rfl ?_;repeat'(first|refine gU ?_|refine VIdx.mk _ ha0 ?_|refine gZ hy1 ?_|refine gW hf ?_|refine gW hr ?_|refine gW hg ?_|apply gK)<;>conv=>whnf
  all_goals exact gJ
 obtain⟨rfl,d2⟩:=j0C q5;rcases d2 with⟨d1,-⟩|⟨-,d2⟩
 rotate_left
 ·cases d2
 have hk6:=of_decide_eq_true d1;obtain⟨d0,hd0,o0,m0⟩:=hkid5 0 (by rw[hk6];decide)
 obtain⟨e1,he1,o1,m1⟩:=hkid5 1 (by rw[hk6];decide)
 have o0':=o0;have o1':=o1;cases o0'.c;cases o1'.c;rcases j06 q6 with⟨e,q7,rfl⟩|⟨u1,ld,q7,q8⟩
 ·obtain⟨he,hch⟩:=j7a hE ht hI fI ctx _ hc _ _ p1 i1 _ _ o0 lc _ l' (by omega) (by omega) q7
  refine⟨he,?_⟩;refine j00 Tryz.func111 rfl rfl rfl ?_;repeat'(first|refine gU ?_|refine VIdx.mk _ ha0 ?_|refine VIdx.mk _ ha1 ?_|refine gZ hy1 ?_|refine gW hf ?_|refine gW hr ?_|refine gW hg ?_|refine VIdx.mk _ hd0 ?_|refine gZ hy5 ?_|refine gW hch ?_|apply gK)<;>conv=>whnf
  all_goals exact gJ
 have hch:Fr _ _ _ _ _ (.ret [iv 0]) ld:=j7a hE ht hI fI ctx _ hc _ _ p1 i1 _ _ o0 lc _ ld (by omega) (by omega) q7
 have hN:=j6T _ _ o1 [t.arg 1] true 5 _ (.inl rfl) ⟨_,[],rfl,p1,rfl⟩ (by simp)
 have hoW:TmW ((InstF (f.arg 1) [t.arg 1]).getD tz):=j7A fun x hx=>j9n (by simpa using p1.w) o1.w hx
 rw[j5O] at hN;have hoS:∀x,InstF (f.arg 1) [t.arg 1]=some x→shT x=true:=fun x hx=>j6S hx
 generalize InstF (f.arg 1) [t.arg 1]=o at *;unfold TmW at hoW;obtain⟨k9,n9,s9,b9,z9,x9,c9,y9,ys9,he9⟩:=j07 (o.getD tz);rw[he9] at hN hoW;obtain⟨rfl,hfi⟩:=j8D o _ hoW q8;cases r with
 |error e=>
  obtain⟨rfl,hfi⟩:=hfi;refine⟨by omega,?_⟩
  refine j00 Tryz.func111 rfl rfl rfl ?_;repeat'(first|refine gU ?_|refine VIdx.mk _ ha0 ?_|refine VIdx.mk _ ha1 ?_|refine gZ hy1 ?_|refine gW hf ?_|refine gW hr ?_|refine gW hg ?_|refine VIdx.mk _ hd0 ?_|refine VIdx.mk _ he1 ?_|refine gZ hy5 ?_|refine gW hch ?_|refine j01 hN fun _=>?_|refine j01 hfi fun _=>?_|apply gK)<;>conv=>whnf
  all_goals exact gJ
 |ok x=>
  obtain⟨rfl,hzx,hfi⟩:=hfi;refine⟨⟨hoS _ rfl,hzx⟩,_,hoW,?_⟩;refine j00 Tryz.func111 rfl rfl rfl ?_;repeat'(first|refine gU ?_|refine VIdx.mk _ ha0 ?_|refine VIdx.mk _ ha1 ?_|refine gZ hy1 ?_|refine gW hf ?_|refine gW hr ?_|refine gW hg ?_|refine VIdx.mk _ hd0 ?_|refine VIdx.mk _ he1 ?_|refine gZ hy5 ?_|refine gW hch ?_|refine j01 hN fun _=>?_|refine j01 hfi fun _=>?_|apply gK)<;>conv=>whnf
  all_goals exact gJ
theorem jqH(hE:NvP E (.cp cs))(ht:tot≤1048576)(hI:jcH cs tot I)(fI:∀c t,Fine (I c t))(ctx:List Tm)(cv:PV)(hc:CtxP ctx cv)(t:Tm)(v:PV)(h:TmP t v)(hs:shT t=true)(hk:t.kind=5)(l:Int)(r:Except Int Tm)(l':Int)(h0:0≤l)(h1:l≤tot)(hx:jtD E n I ctx t l=some (r,l')):IrT 112 [xI,cv,v] cs tot l r l':=by
 have hc':=hc;obtain⟨b,z,xs,rfl,-⟩:=hc';obtain⟨n1,s1,b1,z1,x1,c1,y1,ys1,rfl,hy1,hkid⟩:=kids h hs;obtain⟨a0,ha0,p0,i0⟩:=hkid 0 (by rw[hk];decide)
 obtain⟨a1,ha1,p1,i1⟩:=hkid 1 (by rw[hk];decide)
 have p0':=p0;have p1':=p1;cases p0'.c;cases p1'.c;unfold jtD at hx;rcases j06 hx with⟨e,q1,rfl⟩|⟨y,la,q1,q2⟩
 ·obtain⟨he,hf⟩:=j3w hE ht hI fI ctx _ hc _ _ p0 i0 l _ l' h0 h1 q1;refine⟨he,?_⟩;refine j00 Tryz.func112 rfl rfl rfl ?_;repeat'(first|refine gU ?_|refine VIdx.mk _ ha0 ?_|refine gZ hy1 ?_|refine gW hf ?_)<;>conv=>whnf
  all_goals exact gJ
 obtain⟨wy,hwy,hf⟩:=j3w hE ht hI fI ctx _ hc _ _ p0 i0 l _ la h0 h1 q1;have hla:=(j1M (E:=E) (n:=n) fI ctx (t.arg 0)).dn l _ la h0 q1;cases hwy.c;rcases j06 q2 with⟨e,q3,rfl⟩|⟨y2,lb,q3,q4⟩
 ·obtain⟨he,hw⟩:=j6q hI ctx _ hc _ _ p0 i0 _ _ p1 i1 la _ l' (by omega) (by omega) q3
  refine⟨he,?_⟩;refine j00 Tryz.func112 rfl rfl rfl ?_;repeat'(first|refine gU ?_|refine VIdx.mk _ ha0 ?_|refine VIdx.mk _ ha1 ?_|refine gZ hy1 ?_|refine gW hf ?_|refine gW hw ?_|apply gK)<;>conv=>whnf
  all_goals exact gJ
 obtain⟨⟨hys,hyz⟩,wb,hwb,hw⟩:=j6q hI ctx _ hc _ _ p0 i0 _ _ p1 i1 la _ lb (by omega) (by omega) q3
 obtain⟨wp,hwp,hp⟩:=jsj y2 _ hwb [t.arg 0] true 5 _ (.inl rfl) ⟨_,[],rfl,p0,rfl⟩ (by simp)
 have hps:shT (overR 6 [t.arg 0] y2)=true:=jal (by omega) rfl (by omega) (fun _=>rfl) (fun x hx=>by
  rcases List.mem_cons.1 hx with rfl|hx
  ·exact i0
  ·rw[List.mem_singleton.1 hx];exact hys) (by omega)
 have hwp:TmP ((some (overR 6 [t.arg 0] y2)).getD tz) wp:=hwp;obtain⟨rfl,hfi⟩:=j8D _ wp hwp q4;cases hwb.c;cases hwp.c;cases r with
 |error e=>
  obtain⟨rfl,hfi⟩:=hfi;refine⟨by omega,?_⟩
  refine j00 Tryz.func112 rfl rfl rfl ?_;repeat'(first|refine gU ?_|refine VIdx.mk _ ha0 ?_|refine VIdx.mk _ ha1 ?_|refine gZ hy1 ?_|refine gW hf ?_|refine gW hw ?_|refine j01 hp fun _=>?_|refine j01 hfi fun _=>?_|apply gK)<;>conv=>whnf
  all_goals exact gJ
 |ok x=>
  obtain⟨e,hzx,hfi⟩:=hfi;cases e;refine⟨⟨hps,hzx⟩,_,hwp,?_⟩;refine j00 Tryz.func112 rfl rfl rfl ?_;repeat'(first|refine gU ?_|refine VIdx.mk _ ha0 ?_|refine VIdx.mk _ ha1 ?_|refine gZ hy1 ?_|refine gW hf ?_|refine gW hw ?_|refine j01 hp fun _=>?_|refine j01 hfi fun _=>?_|apply gK)<;>conv=>whnf
  all_goals exact gJ
end
open Go Go.Am Go.Gw
theorem jjX{x:M α}(fx:Fine x){k:Int}(h0:0≤l)(hk:0≤k){r r2:Except Int α}{l2:Int}(h:x l=some (r,l'))(h2:x (l+k)=some (r2,l2)):0≤l'∧l'≤l∧0≤l2∧((r=.error 22∧l'=0∧l2≤k)∨(¬r=.error 22∧r2=r∧l2=l'+k)):=by
 have d1:=fx.dn l _ l' h0 h;have d2:=fx.dn (l+k) _ l2 (by omega) h2
 refine⟨d1.1,d1.2,d2.1,?_⟩
 by_cases e:r=.error 22
 ·subst e;obtain⟨a1,a2⟩:=fx.out l l' k h0 hk h;exact .inl ⟨rfl,a1,a2 _ _ h2⟩
 ·have:=fx.more l r l' k h0 hk h e;rw[h2] at this;cases this;exact .inr ⟨e,rfl,rfl⟩
theorem jb8{x:M α}(fx:Fine x){a:α}(h0:0≤l)(h:bnd j4o (fun _=>x) l=some (.ok a,l')):l'<l:=by
 rcases j06 h with⟨e,h1,h2⟩|⟨u,l1,h1,h2⟩
 ·cases h2
 ·rcases j0S h1 with⟨a1,a2,a3⟩|⟨a1,a2,a3⟩
  ·have:=fx.dn l1 _ l' (by omega) h2
   omega
  ·cases a3
theorem jqJ:∀{n:Nat}{c:List Tm}{t a:Tm}{l l':Int},0≤l→j1I E n c t l=some (.ok a,l')→l'<l
 |0,_,_,_,_,_,_,h=>by cases h
 |n+1,c,t,a,l,l',h0,h=>jb8 (jbx (j0G n) c t) h0 h
theorem jiw(n:Nat)(c:List Tm)(t:Tm):Fine (j2N E n c t):=j03 (j0l (by omega)) fun _=>j0G n c t
theorem jeK(hE:NvOk E)(c:List Tm)(t:Tm)(l k:Int)(h0:0≤l)(hk:0≤k):∃n r l' r2 l2,j2N E n c t l=some (r,l')∧j2N E n c t (l+k)=some (r2,l2)∧0≤l'∧l'≤l∧0≤l2∧((r=.error 22∧l'=0∧l2≤k)∨(¬r=.error 22∧r2=r∧l2=l'+k∧∀x,r=.ok x→l'<l)):=by
 have ht:TotU (fun n=>j2N E n c t) (l+k):=TotU.pre (fun l=>j1z _ _ l) (j0l (by omega)) fun _=>jlL hE _ c t
 have hm:Mono fun n=>j2N E n c t:=fun _ _ h=>Le.bnd (Le.refl _) fun _=>j8F h c t
 obtain⟨n1,r,l',h1⟩:=ht l h0 (by omega)
 obtain⟨n2,r2,l2,h2⟩:=ht (l+k) (by omega) (by omega)
 have g1:=hm n1 (max n1 n2) (by omega) _ _ _ h1
 have g2:=hm n2 (max n1 n2) (by omega) _ _ _ h2
 obtain⟨d1,d2,d3,d4⟩:=jjX (jiw _ c t) h0 hk g1 g2;refine⟨max n1 n2,r,l',r2,l2,g1,g2,d1,d2,d3,d4.imp id fun⟨e1,e2,e3⟩=>⟨e1,e2,e3,fun x hx=>?_⟩⟩
 subst hx;rcases j06 g1 with⟨e,q1,q2⟩|⟨u,la,q1,q2⟩
 ·cases q2
 ·obtain⟨rfl,-⟩:=j0C q1;exact jqJ h0 q2
open Go Go.ChangeShapes Go.WideShapes Go.ChangeAt Go.RowKit
section
open Go.Gw Go.Am
variable{H:Type}{enc:TypeId×Value→H}{P:Program}{W:World}
end
section
variable{H:Type}{enc:TypeId×Value→H}{W:World}{r:Reach}{b0:Nat}{v:Value}{d:DataW H}{ps:List MemPlace}
end
theorem j8B{H:Type}{enc:TypeId×Value→H}{a:Assume}{C:Checked}{os:Os}{f:FuncId}{fn:Func}{s:ChangeSpec}{conds:List PathCond}{apart fresh handsOn again:Bool}{X:World→Array Value→Prop}
  (hX:∀(w w':World) (args:Array Value),w.heap=w'.heap→X w args→X w' args)
  (own:ownKnob C.prog.godebug=none) (started:os.Started) (noInit:C.prog.inits.idxOf? f=none) (hfn:C.prog.funcs[f]?=some fn)
  (witness:∃(w:World) (tape:Tape) (i:Input),w.os=os∧(w.forCall tape i).Shaped C.prog∧i.vars=[]∧Input.okWide C.prog (w.forCall tape i) .any w.heap.size f i ∧
   ((s.pre enc C.prog fn conds apart (w.forCall tape i).memory i.args∧X (w.forCall tape i).memory i.args)∧sizedMet enc C.prog fn (OpenSpec.ofChange s) apart (w.forCall tape i).memory i.args)∧a.holds C.prog (lone (Frame.enter C.prog f i.args .normal) [] (w.forCall tape i)))
  (contract:∀(W:World) (base:Nat) (args:Array Value) (ds gs:List (DataW H)) (before:List MemPlace),
   (∀(j:Nat) t v,fn.params[j]?=some t→args[j]?=some v→Value.okWide C.prog W .any base t v) →
   DataW.Whole enc C.prog fn.params.toList s.vars apart W args.toList ds gs before →
   conds.all (PathCond.test C.prog ⟨fn.params.toList,ds,s.plain.varTypes C.prog,gs⟩)=true →
   (DataW.weightsEach C.prog (fn.params.toList++s.plain.varTypes C.prog) (ds++gs)).all (· ≤reachBytes)=true→X W args→W.ShapedOpen C.prog →
   a.holds C.prog (lone (Frame.enter C.prog f args .normal) [] W) →
   Calls C.prog f args W fun e W'=>∃v,e=.returned v∧s.post enc C.prog fn apart fresh handsOn again W args v W') :
  ReturnsInHanded a C os f .any (fun w args=>(s.pre enc C.prog fn conds apart w args∧X w args)∧sizedMet enc C.prog fn (OpenSpec.ofChange s) apart w args) (s.post enc C.prog fn apart fresh handsOn again):=by
 refine returnsInHanded_of_calls own started noInit witness ?_
 intro w tape i _ hsh _ hok hpre hholds;obtain⟨_,_,_,fn',hfn',_,_,_,_,hval⟩:=hok;have e:fn'=fn:=Option.some.inj (hfn'.symm.trans hfn);subst e;obtain⟨⟨⟨ds,gs,before,hw,hc⟩,hx⟩,hz⟩:=hpre;have hw':=DataW.Whole.of_heap (w':=w.forCall tape i) (by rfl) hw
 refine(contract (w.forCall tape i) w.heap.size i.args ds gs before hval hw' hc (hz.weights hw) (hX _ _ _ (by rfl) hx) hsh hholds).mono fun e W' ⟨v,he,hp⟩=>?_
 subst he;exact ChangeSpec.post_blind hp
end Go.Proofs.YtbnodhcijeaceaaGreatDoor

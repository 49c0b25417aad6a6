/- Types that are held against each other (package infer), as plain functions by ticks. -/
import Derived.Test.YtbnodhcijeaceaaGreatDoorXIt
import Derived.Test.YtbnodhcijeaceaaGreatDoorXLp
import Derived.Test.YtbnodhcijeaceaaGreatDoorRows
import Derived.LaidMore
import Derived.Lay
import Derived.Stop.LaidErr
import Derived.SevenTiedAt
import Derived.Shelf.Vars
set_option linter.all false
set_option maxHeartbeats 4000000
set_option maxRecDepth 1000000
namespace Go.Proofs.YtbnodhcijeaceaaGreatDoor
open Go Go.Am Go.Gw
section
variable(E:Nv)(n:Nat)(I:List Tm→Tm→M Tm)
noncomputable def levB(x:Tm):M Lv:=bnd (j3M E n x) fun s=>bnd (j3w (decide (s.kind=2)) 19) fun _=>mok s.lv
noncomputable def j7O(ctx:List Tm)(t:Tm):M Lv:=bnd (I ctx t) fun x=>levB E n x
noncomputable def jaa(ctx:List Tm)(t typ:Tm):M Unit:=bnd (I ctx t) fun a=>bnd (j8v E n ctx a typ) fun ok=>j3w ok 18
noncomputable def jt7(ctx:List Tm)(t:Tm):M Tm:=bnd (I ctx (t.arg 0)) fun y=>bnd (j3M E n y) fun f=>bnd (j3w (decide (f.kind=6)) 20) fun _=>bnd (jaa E n I ctx (t.arg 1) (f.arg 0)) fun _=>j4W (InstF (f.arg 1) [t.arg 1])
def jak(ctx:List Tm)(t body:Tm):M Tm:=bnd (j9k ctx t) fun c2=>I c2 body
noncomputable def jt8(ctx:List Tm)(t:Tm):M Tm:=bnd (j7O E n I ctx (t.arg 0)) fun _=>bnd (jak I ctx (t.arg 0) (t.arg 1)) fun b=>j4W (some (overR 6 [t.arg 0] b))
noncomputable def ipiB(ctx:List Tm)(t:Tm):M Tm:=bnd (j7O E n I ctx (t.arg 0)) fun l=>bnd (bnd (jak I ctx (t.arg 0) (t.arg 1)) fun b=>levB E n b) fun m=>bnd (j6Z (j9s l m)) fun x=>mok (jfi x)
noncomputable def jt9(ctx:List Tm)(t:Tm):M Tm:=bnd (j7O E n I ctx (t.arg 0)) fun _=>bnd (jaa E n I ctx (t.arg 1) (t.arg 0)) fun _=>bnd (j4W (InstF (t.arg 2) [t.arg 1])) fun b=>I ctx b
noncomputable def jai(ctx:List Tm)(t:Tm):M Tm:=
 if t.kind=4 then jt7 E n I ctx t else if t.kind=5 then jt8 E n I ctx t else if t.kind=6 then ipiB E n I ctx t else if t.kind=7 then jt9 E n I ctx t else jbd E n ctx t
noncomputable def jjO(ctx:List Tm)(t:Tm):M Tm:=bnd j6c fun _=>jai E n I ctx t
end
noncomputable def j1P(E:Nv)(n:Nat):List Tm→Tm→M Tm:=Nat.rec (motive:=fun _=>List Tm→Tm→M Tm) (fun _ _ _=>none) (fun m I ctx t=>jjO E m I ctx t) n
def jij(E:Nv)(n:Nat)(ctx:List Tm)(t:Tm):j1P E (n+1) ctx t=jjO E n (j1P E n) ctx t:=rfl
noncomputable def j6E(E:Nv)(n:Nat)(ctx:List Tm)(t:Tm):M Tm:=bnd (j3w (j1G ctx [t]) 10) fun _=>j1P E n ctx t
noncomputable def jgy(E:Nv)(n:Nat)(ctx:List Tm)(t:Tm):M Lv:=bnd (j6E E n ctx t) fun x=>levB E n x
noncomputable def jbA(E:Nv)(n:Nat)(ctx:List Tm)(t typ:Tm):M Unit:=bnd (j6E E n ctx t) fun a=>bnd (j8v E n ctx a typ) fun ok=>j3w ok 18
noncomputable def juh(E:Nv)(n:Nat)(c:List Tm):List Tm→M Unit
 |[]=>mok ()
 |t::r=>bnd (j7O E n (j1P E n) c t) fun _=>juh E n (c++[t]) r
noncomputable def jug(E:Nv)(n:Nat)(ctx:List Tm):M Unit:=bnd (j3w (j1G ctx []) 10) fun _=>juh E n [] ctx
section
variable{E:Nv}{n m:Nat}{I J:List Tm→Tm→M Tm}
def jdj(c:List Tm)(t:Tm):Fine (jbd E n c t):=j08 (j0y (by omega)) fun _=>j1E n c t
def j3W(c:List Tm)(a b:Tm):Fine (j8v E n c a b):=j08 (j0y (by omega)) fun _=>j3s n c a b
def jaL(x:Tm):Fine (levB E n x):=j08 (j0I n x) fun _=>j08 (j0y (by omega)) fun _=>j0r _
def j2e(h:∀c t,Fine (I c t))(c:List Tm)(t:Tm):Fine (j7O E n I c t):=j08 (h c t) fun _=>jaL _
def j4U(h:∀c t,Fine (I c t))(c:List Tm)(t u:Tm):Fine (jaa E n I c t u):=j08 (h c t) fun _=>j08 (j3W _ _ _) fun _=>j0y (by omega)
def j3e(h:∀c t,Fine (I c t))(c:List Tm)(t u:Tm):Fine (jak I c t u):=j08 (j2p _ _) fun _=>h _ _
def ji7(h:∀c t,Fine (I c t))(c:List Tm)(t:Tm):Fine (jai E n I c t):=by
 unfold jai;split
 ·exact j08 (h _ _) fun _=>j08 (j0I n _) fun _=>j08 (j0y (by omega)) fun _=>j08 (j4U h _ _ _) fun _=>j1x _
 split
 ·exact j08 (j2e h _ _) fun _=>j08 (j3e h _ _ _) fun _=>j1x _
 split
 ·exact j08 (j2e h _ _) fun _=>j08 (j08 (j3e h _ _ _) fun _=>jaL _) fun _=>j08 (j9G _) fun _=>j0r _
 split
 ·exact j08 (j2e h _ _) fun _=>j08 (j4U h _ _ _) fun _=>j08 (j1x _) fun _=>h _ _
 ·exact jdj _ _
def j0W:∀(n:Nat) (c:List Tm) (t:Tm),Fine (j1P E n c t)
 |0,_,_=>j8D
 |n+1,c,t=>j08 j4j fun _=>ji7 (j0W n) c t
def jqH(h:n≤m)(c:List Tm)(t:Tm):Le (jbd E n c t) (jbd E m c t):=Le.bnd (Le.refl _) fun _=>jdv h c t
def jaM(h:n≤m)(c:List Tm)(a b:Tm):Le (j8v E n c a b) (j8v E m c a b):=Le.bnd (Le.refl _) fun _=>jbG h c a b
def jjY(h:n≤m)(x:Tm):Le (levB E n x) (levB E m x):=Le.bnd (j6J h x) fun _=>Le.refl _
def jaN(h:n≤m)(hI:∀c t,Le (I c t) (J c t))(c:List Tm)(t:Tm):Le (j7O E n I c t) (j7O E m J c t):=Le.bnd (hI c t) fun _=>jjY h _
def jeF(h:n≤m)(hI:∀c t,Le (I c t) (J c t))(c:List Tm)(t u:Tm):Le (jaa E n I c t u) (jaa E m J c t u):=Le.bnd (hI c t) fun _=>Le.bnd (jaM h _ _ _) fun _=>Le.refl _
def jeH(hI:∀c t,Le (I c t) (J c t))(c:List Tm)(t u:Tm):Le (jak I c t u) (jak J c t u):=Le.bnd (Le.refl _) fun _=>hI _ _
def jox(h:n≤m)(hI:∀c t,Le (I c t) (J c t))(c:List Tm)(t:Tm):Le (jai E n I c t) (jai E m J c t):=by
 unfold jai;split
 ·exact Le.bnd (hI _ _) fun _=>Le.bnd (j6J h _) fun _=>Le.bnd (Le.refl _) fun _=>Le.bnd (jeF h hI _ _ _) fun _=>Le.refl _
 split
 ·exact Le.bnd (jaN h hI _ _) fun _=>Le.bnd (jeH hI _ _ _) fun _=>Le.refl _
 split
 ·exact Le.bnd (jaN h hI _ _) fun _=>Le.bnd (Le.bnd (jeH hI _ _ _) fun _=>jjY h _) fun _=>Le.refl _
 split
 ·exact Le.bnd (jaN h hI _ _) fun _=>Le.bnd (jeF h hI _ _ _) fun _=>Le.bnd (Le.refl _) fun _=>hI _ _
 ·exact jqH h _ _
def jgB:∀(n:Nat) (c:List Tm) (t:Tm),Le (j1P E n c t) (j1P E (n+1) c t)
 |0,_,_=>fun _ _ _ h=>by cases h
 |n+1,c,t=>Le.bnd (Le.refl _) fun _=>jox (by omega) (jgB n) c t
def j8M(h:n≤m)(c:List Tm)(t:Tm):Le (j1P E n c t) (j1P E m c t):=joy (x:=fun n=>j1P E n c t) (fun n=>jgB n c t) h
def j9O(c:List Tm)(a b:Tm):Mono fun n=>j8v E n c a b:=fun _ _ h=>jaM h c a b
def j8S(x:Tm):Mono fun n=>levB E n x:=fun _ _ h=>jjY h x
def j5e(c:List Tm)(t:Tm):Mono fun n=>j1P E n c t:=fun _ _ h=>j8M h c t
def j9P(c:List Tm)(t:Tm):Mono fun n=>j7O E n (j1P E n) c t:=fun _ _ h=>jaN h (fun c t=>j8M h c t) c t
def j5d(c:List Tm)(t u:Tm):Mono fun n=>jaa E n (j1P E n) c t u:=fun _ _ h=>jeF h (fun c t=>j8M h c t) c t u
def j5f(c:List Tm)(t u:Tm):Mono fun n=>jak (j1P E n) c t u:=fun _ _ h=>jeH (fun c t=>j8M h c t) c t u
end
section
variable{E:Nv}{q:Int}
def jpo(hE:NvOk E)(q:Int)(c:List Tm)(a b:Tm):TotU (fun n=>j2t E n c a b) q:=fun l h0 h1=>jrq hE q.toNat c a b l h0 (by omega)
def jnk(hE:NvOk E)(q:Int)(c:List Tm)(t:Tm):TotU (fun n=>jbd E n c t) q:=TotU.pre (fun l=>j1t _ _ l) (j0y (by omega)) fun _=>jkD hE q c t
def jfW(hE:NvOk E)(q:Int)(c:List Tm)(a b:Tm):TotU (fun n=>j8v E n c a b) q:=TotU.pre (fun l=>j1t _ _ l) (j0y (by omega)) fun _=>jpo hE q c a b
def jir(hE:NvOk E)(q:Int)(x:Tm):TotU (fun n=>levB E n x) q:=TotU.bnd (j7C hE _ x) (fun n=>j0I n x) (j1K x) (fun s=>TotU.pre (fun l=>j1t _ _ l) (j0y (by omega)) fun _=>j1M _) (fun s=>j1b _)
def jor(hE:NvOk E)(hI:∀c t,TotU (fun n=>j1P E n c t) q)(c:List Tm)(t:Tm):TotU (fun n=>j7O E n (j1P E n) c t) q:=TotU.bnd (hI c t) (fun n=>j0W n c t) (j5e c t) (fun x=>jir hE q x) (fun x=>j8S x)
def jnm(hE:NvOk E)(hI:∀c t,TotU (fun n=>j1P E n c t) q)(c:List Tm)(t u:Tm):TotU (fun n=>jaa E n (j1P E n) c t u) q:=TotU.bnd (hI c t) (fun n=>j0W n c t) (j5e c t) (fun x=>TotU.bnd (jfW hE q c x u) (fun n=>j3W c x u) (j9O c x u) (fun ok=>j2z fun l=>j1t _ _ l) (fun ok=>j1b _)) (fun x=>j1Q (j9O c x u) fun ok=>j1b _)
def jos(hI:∀c t,TotU (fun n=>j1P E n c t) q)(c:List Tm)(t u:Tm):TotU (fun n=>jak (j1P E n) c t u) q:=TotU.pre (fun l=>j9l _ _ l) (j2p _ _) fun c2=>hI c2 u
def joh(hE:NvOk E):∀(q:Nat) (c:List Tm) (t:Tm),TotU (fun n=>j1P E n c t) q:=by
 intro q
 induction q using Nat.strongRecOn with
 |_ q ih=>
 intro c t l h0 h1;refine Tot.succ (fun n=>jij E n c t) ?_
 refine TotU.tick (q:=q) ?_ l h0 h1
 intro l h0 h1;have hI:∀c t,TotU (fun n=>j1P E n c t) ((q:Int)-1):=fun c t=>by
  have:=ih (q-1) (by omega) c t
  rwa [show((q-1:Nat):Int)=(q:Int)-1 by omega] at this
 have hS:=jor hE hI;have hC:=jnm hE hI;have hW:=jos hI;revert l;show TotU _ _
 unfold jai
 by_cases c1:t.kind=4
 ·simp only[if_pos c1];exact TotU.bnd (hI _ _) (fun n=>j0W n _ _) (j5e _ _) (fun y=>TotU.bnd (j7C hE _ y) (fun n=>j0I n y) (j1K y) (fun f=>TotU.pre (fun l=>j1t _ _ l) (j0y (by omega)) fun _=>TotU.bnd (hC _ _ _) (fun n=>j4U (j0W n) _ _ _) (j5d _ _ _) (fun _=>j2z fun l=>j3Q _ _) (fun _=>j1b _)) (fun f=>j1Q (j1b _) fun _=>j1Q (j5d _ _ _) fun _=>j1b _)) (fun y=>j1Q (j1K y) fun f=>j1Q (j1b _) fun _=>j1Q (j5d _ _ _) fun _=>j1b _)
 simp only[if_neg c1]
 by_cases c2:t.kind=5
 ·simp only[if_pos c2];exact TotU.bnd (hS _ _) (fun n=>j2e (j0W n) _ _) (j9P _ _) (fun _=>TotU.bnd (hW _ _ _) (fun n=>j3e (j0W n) _ _ _) (j5f _ _ _) (fun b=>j2z fun l=>j3Q _ _) (fun b=>j1b _)) (fun _=>j1Q (j5f _ _ _) fun b=>j1b _)
 simp only[if_neg c2]
 by_cases c3:t.kind=6
 ·simp only[if_pos c3];exact TotU.bnd (hS _ _) (fun n=>j2e (j0W n) _ _) (j9P _ _) (fun a=>TotU.bnd (TotU.bnd (hW _ _ _) (fun n=>j3e (j0W n) _ _ _) (j5f _ _ _) (fun b=>jir hE _ b) (fun b=>j8S b)) (fun n=>j08 (j3e (j0W n) _ _ _) fun _=>jaL _) (j1Q (j5f _ _ _) fun b=>j8S b) (fun m=>j2z fun l=>j3I (jce _ _) fun _ _=>⟨_,_,rfl⟩) (fun m=>j1b _)) (fun a=>j1Q (j1Q (j5f _ _ _) fun b=>j8S b) fun m=>j1b _)
 simp only[if_neg c3]
 by_cases c4:t.kind=7
 ·simp only[if_pos c4];exact TotU.bnd (hS _ _) (fun n=>j2e (j0W n) _ _) (j9P _ _) (fun a=>TotU.bnd (hC _ _ _) (fun n=>j4U (j0W n) _ _ _) (j5d _ _ _) (fun _=>TotU.pre (fun l=>j3Q _ _) (j1x _) fun b=>hI _ _) (fun _=>j1Q (j1b _) fun b=>j5e _ _)) (fun a=>j1Q (j5d _ _ _) fun _=>j1Q (j1b _) fun b=>j5e _ _)
 simp only[if_neg c4];exact jnk hE _ _ _
def jly(hE:NvOk E)(q:Int)(c:List Tm)(t:Tm):TotU (fun n=>j1P E n c t) q:=fun l h0 h1=>joh hE q.toNat c t l h0 (by omega)
end
open Go Go.Am Go.Gw
variable{K:AEnd→Sto→Prop}{f:FuncId}{args rs:List PV}{b o:Nat}{st st1:Sto}{v:Value}{W:World}
def jpM(h:Finds C1 f [] [] fun r s=>r=.ret rs∧s=st1)(hp:rs.all (pur 8)=false)(hb:VBack [] st (.ret rs) st1 K):VCall C1 f [] st K:=j1d rfl (Finds.mono h (by rintro _ _ ⟨rfl,rfl⟩;exact⟨hp,hb⟩))
def axE(s:List UInt8)(t:Tm):En:=⟨1,0,s,t,tz,0,[],0,0,0,[]⟩
def twoT:Tm:=pi_ tNat (pi_ tNat tNat)
def lib14:List En:=[⟨5,0,nNat,so_ l1,tz,0,[],0,0,0,[j6O,j8b]⟩,⟨6,0,j6O,tNat,jsr,0,nNat,0,0,0,[]⟩,⟨6,0,j8b,pi_ tNat tNat,jsl,0,nNat,0,1,1,[]⟩,⟨7,1,nRec,recT,tz,0,nNat,0,0,0,[j6O,j8b]⟩,⟨2,0,nAdd,twoT,jtS,1,[],0,0,0,[]⟩,⟨2,0,nMul,twoT,juo,2,[],0,0,0,[]⟩,axE [107] tNat,axE [112] (so_ l0),axE [104] (cq [112]),axE [105] (cq [112]),axE [113] (pi_ tNat (so_ l0)),axE [102] twoT]
def jgD:∃xs,EnsP lib14 xs∧Pf C1 33 [] [.sl false 19 xs]:=by
 refine Finds.out (P:=EnsP lib14) (R:=fun xs=>.ret [.sl false 19 xs]) ?_
 obtain⟨xs,hx,hl⟩:=joE;obtain⟨v0,_,rfl,p0,v1,_,rfl,p1,v2,_,rfl,p2,v3,_,rfl,p3,v4,_,rfl,p4,v5,_,rfl,p5,v6,_,rfl,p6,rfl⟩:=hx;obtain⟨rr,hC,cr⟩:=j4l jm8;obtain⟨rt,hA,ct⟩:=j4l jm9;obtain⟨rs,wB,cs⟩:=j4l jpc;obtain⟨rp,gB,cp⟩:=j4l jri;obtain⟨rq,qC,cq'⟩:=j4l jrj;have wA:=hC;obtain⟨rr1,rr2,rr3,rr4,rr5,rr6,rr7,rr8,rr9,rra,rrb,-,rfl,-⟩:=wA.open;have qA:=hA;obtain⟨rt1,rt2,rt3,rt4,rt5,rt6,rt7,rt8,rt9,rta,rtb,-,rfl,-⟩:=qA.open;have gA:=wB;obtain⟨rs1,rs2,rs3,rs4,rs5,rs6,rs7,rs8,rs9,rsa,rsb,-,rfl,-⟩:=gA.open;have qB:=gB;obtain⟨rp1,rp2,rp3,rp4,rp5,rp6,rp7,rp8,rp9,rpa,rpb,-,rfl,-⟩:=qB.open;have hB:=qC;obtain⟨rq1,rq2,rq3,rq4,rq5,rq6,rq7,rq8,rq9,rqa,rqb,-,rfl,-⟩:=hB.open;have p0':=p0;have p1':=p1;have p2':=p2;have p3':=p3;have p4':=p4;have p5':=p5;have p6':=p6;obtain⟨e0_0,e0_1,e0_2,e0_3,e0_4,e0_5,e0_6,e0_7,e0_8,e0_9,e0_10,e0_11,e0_12,e0_13,e0_14,e0_15,e0_16,e0_17,e0_18,e0_19,rfl,e0h⟩:=p0;obtain⟨e1_0,e1_1,e1_2,e1_3,e1_4,e1_5,e1_6,e1_7,e1_8,e1_9,e1_10,e1_11,e1_12,e1_13,e1_14,e1_15,e1_16,e1_17,e1_18,e1_19,rfl,e1h⟩:=p1;obtain⟨e2_0,e2_1,e2_2,e2_3,e2_4,e2_5,e2_6,e2_7,e2_8,e2_9,e2_10,e2_11,e2_12,e2_13,e2_14,e2_15,e2_16,e2_17,e2_18,e2_19,rfl,e2h⟩:=p2;obtain⟨e3_0,e3_1,e3_2,e3_3,e3_4,e3_5,e3_6,e3_7,e3_8,e3_9,e3_10,e3_11,e3_12,e3_13,e3_14,e3_15,e3_16,e3_17,e3_18,e3_19,rfl,e3h⟩:=p3;obtain⟨e4_0,e4_1,e4_2,e4_3,e4_4,e4_5,e4_6,e4_7,e4_8,e4_9,e4_10,e4_11,e4_12,e4_13,e4_14,e4_15,e4_16,e4_17,e4_18,e4_19,rfl,e4h⟩:=p4;obtain⟨e5_0,e5_1,e5_2,e5_3,e5_4,e5_5,e5_6,e5_7,e5_8,e5_9,e5_10,e5_11,e5_12,e5_13,e5_14,e5_15,e5_16,e5_17,e5_18,e5_19,rfl,e5h⟩:=p5;obtain⟨e6_0,e6_1,e6_2,e6_3,e6_4,e6_5,e6_6,e6_7,e6_8,e6_9,e6_10,e6_11,e6_12,e6_13,e6_14,e6_15,e6_16,e6_17,e6_18,e6_19,rfl,e6h⟩:=p6;have hE:EnsP lib14 [.ag [iv 5,iv 0,sv nNat,iv e0_0,iv e0_1,sv e0_2,.sl e0_3 e0_4 e0_5,.sl e0_6 e0_7 e0_8,iv e0_9,iv e0_10,sv e0_11,.sl e0_12 e0_13 e0_14,.sl e0_15 e0_16 e0_17,iv 0,sv [],iv 0,iv 0,iv 0,.sl e0_18 e0_19 (svs [j6O,j8b])],.ag [iv 6,iv 0,sv j6O,iv e1_0,iv e1_1,sv e1_2,.sl e1_3 e1_4 e1_5,.sl e1_6 e1_7 e1_8,iv e1_9,iv e1_10,sv e1_11,.sl e1_12 e1_13 e1_14,.sl e1_15 e1_16 e1_17,iv 0,sv nNat,iv 0,iv 0,iv 0,.sl e1_18 e1_19 (svs [])],.ag [iv 6,iv 0,sv j8b,iv e2_0,iv e2_1,sv e2_2,.sl e2_3 e2_4 e2_5,.sl e2_6 e2_7 e2_8,iv e2_9,iv e2_10,sv e2_11,.sl e2_12 e2_13 e2_14,.sl e2_15 e2_16 e2_17,iv 0,sv nNat,iv 0,iv 1,iv 1,.sl e2_18 e2_19 (svs [])],.ag [iv 7,iv 1,sv nRec,iv rr1,iv rr2,sv rr3,.sl rr6 rr7 rr8,.sl rr9 rra rrb,iv e3_9,iv e3_10,sv e3_11,.sl e3_12 e3_13 e3_14,.sl e3_15 e3_16 e3_17,iv 0,sv nNat,iv 0,iv 0,iv 0,.sl e3_18 e3_19 (svs [j6O,j8b])],.ag [iv 2,iv 0,sv nAdd,iv rt1,iv rt2,sv rt3,.sl rt6 rt7 rt8,.sl rt9 rta rtb,iv e4_9,iv e4_10,sv e4_11,.sl e4_12 e4_13 e4_14,.sl e4_15 e4_16 e4_17,iv 1,sv [],iv 0,iv 0,iv 0,.sl e4_18 e4_19 (svs [])],.ag [iv 2,iv 0,sv nMul,iv rt1,iv rt2,sv rt3,.sl rt6 rt7 rt8,.sl rt9 rta rtb,iv e5_9,iv e5_10,sv e5_11,.sl e5_12 e5_13 e5_14,.sl e5_15 e5_16 e5_17,iv 2,sv [],iv 0,iv 0,iv 0,.sl e5_18 e5_19 (svs [])],.ag [iv 1,iv 0,sv [107],iv e6_0,iv e6_1,sv e6_2,.sl e6_3 e6_4 e6_5,.sl e6_6 e6_7 e6_8,iv e6_9,iv e6_10,sv e6_11,.sl e6_12 e6_13 e6_14,.sl e6_15 e6_16 e6_17,iv 0,sv [],iv 0,iv 0,iv 0,.sl e6_18 e6_19 (svs [])],.ag [iv 1,iv 0,sv [112],iv rs1,iv rs2,sv rs3,.sl rs6 rs7 rs8,.sl rs9 rsa rsb,iv 0,iv 0,sv [],.sl true 0 [],.sl true 0 [],iv 0,sv [],iv 0,iv 0,iv 0,.sl true 0 []],.ag [iv 1,iv 0,sv [104],iv rp1,iv rp2,sv rp3,.sl rp6 rp7 rp8,.sl rp9 rpa rpb,iv 0,iv 0,sv [],.sl true 0 [],.sl true 0 [],iv 0,sv [],iv 0,iv 0,iv 0,.sl true 0 []],.ag [iv 1,iv 0,sv [105],iv rp1,iv rp2,sv rp3,.sl rp6 rp7 rp8,.sl rp9 rpa rpb,iv 0,iv 0,sv [],.sl true 0 [],.sl true 0 [],iv 0,sv [],iv 0,iv 0,iv 0,.sl true 0 []],.ag [iv 1,iv 0,sv [113],iv rq1,iv rq2,sv rq3,.sl rq6 rq7 rq8,.sl rq9 rqa rqb,iv 0,iv 0,sv [],.sl true 0 [],.sl true 0 [],iv 0,sv [],iv 0,iv 0,iv 0,.sl true 0 []],.ag [iv 1,iv 0,sv [102],iv rt1,iv rt2,sv rt3,.sl rt6 rt7 rt8,.sl rt9 rta rtb,iv 0,iv 0,sv [],.sl true 0 [],.sl true 0 [],iv 0,sv [],iv 0,iv 0,iv 0,.sl true 0 []]]:=⟨_,_,rfl,p0',_,_,rfl,p1',_,_,rfl,p2',_,_,rfl,⟨rr1,rr2,rr3,rr6,rr7,rr8,rr9,rra,rrb,e3_9,e3_10,e3_11,e3_12,e3_13,e3_14,e3_15,e3_16,e3_17,e3_18,e3_19,rfl,hC,e3h.2⟩,_,_,rfl,⟨rt1,rt2,rt3,rt6,rt7,rt8,rt9,rta,rtb,e4_9,e4_10,e4_11,e4_12,e4_13,e4_14,e4_15,e4_16,e4_17,e4_18,e4_19,rfl,hA,e4h.2⟩,_,_,rfl,⟨rt1,rt2,rt3,rt6,rt7,rt8,rt9,rta,rtb,e5_9,e5_10,e5_11,e5_12,e5_13,e5_14,e5_15,e5_16,e5_17,e5_18,e5_19,rfl,hA,e5h.2⟩,_,_,rfl,p6',_,_,rfl,⟨rs1,rs2,rs3,rs6,rs7,rs8,rs9,rsa,rsb,0,0,[],true,0,[],true,0,[],true,0,rfl,wB,j7c,.inr ⟨rfl,rfl,rfl⟩,by simp[axE],by simp[axE],by simp[axE],by simp[axE]⟩,_,_,rfl,⟨rp1,rp2,rp3,rp6,rp7,rp8,rp9,rpa,rpb,0,0,[],true,0,[],true,0,[],true,0,rfl,gB,j7c,.inr ⟨rfl,rfl,rfl⟩,by simp[axE],by simp[axE],by simp[axE],by simp[axE]⟩,_,_,rfl,⟨rp1,rp2,rp3,rp6,rp7,rp8,rp9,rpa,rpb,0,0,[],true,0,[],true,0,[],true,0,rfl,gB,j7c,.inr ⟨rfl,rfl,rfl⟩,by simp[axE],by simp[axE],by simp[axE],by simp[axE]⟩,_,_,rfl,⟨rq1,rq2,rq3,rq6,rq7,rq8,rq9,rqa,rqb,0,0,[],true,0,[],true,0,[],true,0,rfl,qC,j7c,.inr ⟨rfl,rfl,rfl⟩,by simp[axE],by simp[axE],by simp[axE],by simp[axE]⟩,_,_,rfl,⟨rt1,rt2,rt3,rt6,rt7,rt8,rt9,rta,rtb,0,0,[],true,0,[],true,0,[],true,0,rfl,hA,j7c,.inr ⟨rfl,rfl,rfl⟩,by simp[axE],by simp[axE],by simp[axE],by simp[axE]⟩,rfl⟩
 dsimp only at hl;refine gR Tryz.func33 ?_;repeat'(first|refine gU ?_|refine jpM hl rfl (j1z rfl ?_)|refine VIdx.mk _ rfl ?_|refine gX cr ?_|refine gX ct ?_|refine gX cs ?_|refine gX cp ?_|refine gX cq' ?_)<;>conv=>whnf
 exact jrG (xs:=[.ag [iv 5,iv 0,sv nNat,iv e0_0,iv e0_1,sv e0_2,.sl e0_3 e0_4 e0_5,.sl e0_6 e0_7 e0_8,iv e0_9,iv e0_10,sv e0_11,.sl e0_12 e0_13 e0_14,.sl e0_15 e0_16 e0_17,iv 0,sv [],iv 0,iv 0,iv 0,.sl e0_18 e0_19 (svs [j6O,j8b])],.ag [iv 6,iv 0,sv j6O,iv e1_0,iv e1_1,sv e1_2,.sl e1_3 e1_4 e1_5,.sl e1_6 e1_7 e1_8,iv e1_9,iv e1_10,sv e1_11,.sl e1_12 e1_13 e1_14,.sl e1_15 e1_16 e1_17,iv 0,sv nNat,iv 0,iv 0,iv 0,.sl e1_18 e1_19 (svs [])],.ag [iv 6,iv 0,sv j8b,iv e2_0,iv e2_1,sv e2_2,.sl e2_3 e2_4 e2_5,.sl e2_6 e2_7 e2_8,iv e2_9,iv e2_10,sv e2_11,.sl e2_12 e2_13 e2_14,.sl e2_15 e2_16 e2_17,iv 0,sv nNat,iv 0,iv 1,iv 1,.sl e2_18 e2_19 (svs [])],.ag [iv 7,iv 1,sv nRec,iv rr1,iv rr2,sv rr3,.sl rr6 rr7 rr8,.sl rr9 rra rrb,iv e3_9,iv e3_10,sv e3_11,.sl e3_12 e3_13 e3_14,.sl e3_15 e3_16 e3_17,iv 0,sv nNat,iv 0,iv 0,iv 0,.sl e3_18 e3_19 (svs [j6O,j8b])],.ag [iv 2,iv 0,sv nAdd,iv rt1,iv rt2,sv rt3,.sl rt6 rt7 rt8,.sl rt9 rta rtb,iv e4_9,iv e4_10,sv e4_11,.sl e4_12 e4_13 e4_14,.sl e4_15 e4_16 e4_17,iv 1,sv [],iv 0,iv 0,iv 0,.sl e4_18 e4_19 (svs [])],.ag [iv 2,iv 0,sv nMul,iv rt1,iv rt2,sv rt3,.sl rt6 rt7 rt8,.sl rt9 rta rtb,iv e5_9,iv e5_10,sv e5_11,.sl e5_12 e5_13 e5_14,.sl e5_15 e5_16 e5_17,iv 2,sv [],iv 0,iv 0,iv 0,.sl e5_18 e5_19 (svs [])],.ag [iv 1,iv 0,sv [107],iv e6_0,iv e6_1,sv e6_2,.sl e6_3 e6_4 e6_5,.sl e6_6 e6_7 e6_8,iv e6_9,iv e6_10,sv e6_11,.sl e6_12 e6_13 e6_14,.sl e6_15 e6_16 e6_17,iv 0,sv [],iv 0,iv 0,iv 0,.sl e6_18 e6_19 (svs [])],.ag [iv 1,iv 0,sv [112],iv rs1,iv rs2,sv rs3,.sl rs6 rs7 rs8,.sl rs9 rsa rsb,iv 0,iv 0,sv [],.sl true 0 [],.sl true 0 [],iv 0,sv [],iv 0,iv 0,iv 0,.sl true 0 []],.ag [iv 1,iv 0,sv [104],iv rp1,iv rp2,sv rp3,.sl rp6 rp7 rp8,.sl rp9 rpa rpb,iv 0,iv 0,sv [],.sl true 0 [],.sl true 0 [],iv 0,sv [],iv 0,iv 0,iv 0,.sl true 0 []],.ag [iv 1,iv 0,sv [105],iv rp1,iv rp2,sv rp3,.sl rp6 rp7 rp8,.sl rp9 rpa rpb,iv 0,iv 0,sv [],.sl true 0 [],.sl true 0 [],iv 0,sv [],iv 0,iv 0,iv 0,.sl true 0 []],.ag [iv 1,iv 0,sv [113],iv rq1,iv rq2,sv rq3,.sl rq6 rq7 rq8,.sl rq9 rqa rqb,iv 0,iv 0,sv [],.sl true 0 [],.sl true 0 [],iv 0,sv [],iv 0,iv 0,iv 0,.sl true 0 []],.ag [iv 1,iv 0,sv [102],iv rt1,iv rt2,sv rt3,.sl rt6 rt7 rt8,.sl rt9 rta rtb,iv 0,iv 0,sv [],.sl true 0 [],.sl true 0 [],iv 0,sv [],iv 0,iv 0,iv 0,.sl true 0 []]]) rfl rfl rfl rfl ⟨_,hE,rfl⟩
open Go Go.Am Go.Gw
def Tr.okB:Tr→Nat→Bool
 | .nil,_=>true
 | .nd _ _ l r d q,m=>(l.okB m&&r.okB m)&&decide (0≤d∧d≤m∧0≤q∧q≤m)
def Tr.okB_ok:∀{t:Tr}{m:Nat},t.okB m=true→t.ok m
 | .nil,_,_=>trivial
 | .nd _ _ l r d q,m,h=>by
  simp only[Tr.okB,AB,decide_eq_true_eq] at h;exact⟨Tr.okB_ok h.1.1,Tr.okB_ok h.1.2,h.2⟩
def jgX(s:List UInt8)(n:Int):Tr→Bool
 | .nil=>true
 | .nd _ _ l r _ _=>(l.okB 4000&&(r.okB 4000&&((putR s n l).okB 4000&&(putR s n r).okB 4000)))&&(jgX s n l&&jgX s n r)
def jc4{s:List UInt8}{n:Int}:∀{t:Tr},jgX s n t=true→jf7 s n t
 | .nil,_=>trivial
 | .nd _ _ l r _ _,h=>by
  simp only[jgX,AB] at h;obtain⟨⟨h1,h2,h3,h4⟩,h5,h6⟩:=h;exact⟨Tr.okB_ok h1,Tr.okB_ok h2,Tr.okB_ok h3,Tr.okB_ok h4,jc4 h5,jc4 h6⟩
def Tr.allB(n:Nat):Tr→Bool
 | .nil=>true
 | .nd _ i l r _ _=>decide (0≤i∧i<n)&&(l.allB n&&r.allB n)
def Tr.allB_find{n:Nat}{s:List UInt8}:∀{t:Tr},t.allB n=true→(jay s t).allB n=true
 | .nil,_=>rfl
 | .nd s1 j l r d q,h=>by
  have h':=h;simp only[Tr.allB,AB] at h';unfold jay;split
  ·exact h
  ·split
   ·exact Tr.allB_find h'.2.1
   ·exact Tr.allB_find h'.2.2
def Tr.allB_ok{n:Nat}{s:List UInt8}{t:Tr}(h:t.allB n=true)(i:Int)(hg:getR s t=some i):0≤i∧i<n:=by
 have hf:=Tr.allB_find (s:=s) h;unfold getR at hg;cases hF:jay s t with
 |nil=>
  rw[hF] at hg;cases hg
 |nd s1 j l r d q=>
  rw[hF] at hg hf;cases hg;simp only[Tr.allB,AB,decide_eq_true_eq] at hf;exact hf.1
def nvB(E:Nv):Bool:=E.tr.allB E.es.length&&(E.es.all j1y&&Nat.ble E.es.length 100000)
def juu{E:Nv}(h:nvB E=true):NvOk E:=by
 simp only[nvB,AB] at h;exact⟨fun s i hg=>Tr.allB_ok h.1 i hg,fun e he=>AF.1 h.2.1 e he,AM h.2.2⟩
def jq2:Nv→List En→Bool
 |_,[]=>true
 |E,e::r=>(j1y e&&((getR e.nm E.tr).isNone&&(jgX e.nm E.es.length E.tr&&(Nat.blt E.es.length 100000&&nvB (E.push e)))))&&jq2 (E.push e) r
def jaB:∀{es:List En}{E:Nv},jq2 E es=true→jd0 E es
 |[],_,_=>trivial
 |e::r,E,h=>by
  simp only[jq2,AB] at h;obtain⟨⟨h1,h2,h3,h4,h5⟩,h6⟩:=h;exact⟨⟨h1,by simpa using h2,jc4 h3,by simpa using h4,juu h5⟩,jaB h6⟩
def jmU:jq2 nv0 lib14=true:=by kernel_rfl
def nv14:Nv:=jau nv0 lib14
def j6e(h:Finds C1 f args [] fun r s=>r=.ret rs∧s=st1)(ha:args.all (pur 8)=true)(hp:rs.all (pur 8)=false)(hb:VBack [] st (.ret rs) st1 K):VCall C1 f args st K:=j1d ha (Finds.mono h (by rintro _ _ ⟨rfl,rfl⟩;exact⟨hp,hb⟩))
open Go Go.Am Go.Gw
open Go Go.Am Go.Gw
def jtp:Nat→Tm
 |0=>cq j6O
 |n+1=>ap (cq j8b) (jtp n)
def tA1:Tm:=la_ tNat (ap (ap (cq [102]) (vr 0)) (vr 0))
def tB1:Tm:=la_ tNat (ap (ap (cq [102]) (cq j6O)) (vr 0))
def tB2:Tm:=ap (cq [102]) (cq j6O)
def tK:Tm:=ap (cq nAdd) (cq [107])
def tS:Tm:=ap (ap (cq nAdd) (jtp 2)) (jtp 1)
def tL:Tm:=pi_ tNat (ap (cq [113]) (vr 0))
def out1(r:Option (AEnd×Sto)):PV:=match r with
 |some (.ret [v],_)=>v
 |_=>.un
def is1(r:Option (AEnd×Sto)):Bool:=match r with
 |some (.ret [_],_)=>true
 |_=>false
noncomputable def jvq(n:Int):PV:=out1 ((ev C1 60).call 46 [iv n] [])
noncomputable def lpV:PV:=out1 ((ev C1 60).call 52 [iv 0] [])
noncomputable def lnV:PV:=out1 ((ev C1 60).call 53 [iv 0] [])
noncomputable def liV:PV:=out1 ((ev C1 60).call 51 [lpV,lnV] [])
def jvw(v:PV):Bool:=match v with
 | .ag [.sc (.int .i64 _),.sc (.int .i64 _),.sl _ _ _]=>true
 |_=>false
def isB(q:Bool)(r:Option (AEnd×Sto)):Bool:=match r with
 |some (.ret [.sc (.bool p)],_)=>p == q
 |_=>false
open Go Go.Am Go.Gw
open Go Go.Am
def memB(W:World):Hb.Mem:=fun b o=>match W.heap[b]? with
 |some (.cells c _ _)=>c[o]?
 |_=>none
def joM(h:Gw.Rd (Gw.memOf W) b o v):memB W b o=some v:=by
 obtain⟨c,T,fr,h1,h2⟩:=h;unfold Gw.memOf at h1;unfold memB;rw[h1];exact h2
def jqR(h:memB W b o=some v):∃c T fr,W.heap[b]?=some (.cells c T fr)∧c[o]?=some v:=by
 unfold memB at h;split at h
 ·rename_i c T fr e;exact⟨c,T,fr,e,h⟩
 ·cases h
def jv5(hb:∀b p,Hb.base b=some p→∃cs T fr,p cs∧W.heap[b]?=some (.cells cs T fr)):Hb.Good ⟨W,memB W,Hb.feetOf []⟩ W (memB W) []:=
 ⟨rfl,rfl,rfl,AU _,fun _ _ _=>rfl,fun b o v h=>jqR h,Hb.Mem.le.refl _,fun _ _ _ h=>.inl h,by simp,by simp,.nil,fun b cs h=>⟨hb b cs h,by simp⟩⟩
def jhN{C:Cfg}(hC:∀n,EvOk C (ev C n)){vs:List Value}(h:Pf C f args rs)(hb:∀b p,Hb.base b=some p→∃cs T fr,p cs∧W.heap[b]?=some (.cells cs T fr))(hr:Rl (memB W) noPh args vs):
  Calls C.P f vs.toArray W fun e W'=>∃m' φ' us,e=.returned (Gw.tup us)∧Rl m' φ' rs us∧RowKit.Below W.heap.size W W':=by
 obtain⟨r,st',rfl,N,hN⟩:=h;have hs:Sit ⟨W,memB W,Hb.feetOf []⟩ (memB W) noPh [] [] W:=⟨jv5 hb,rfl,fun _ _=>rfl⟩
 refine((hC N).call f args [] _ st' (hN N (AU N)) W (memB W) noPh [] vs hs hr).mono ?_;rintro e W' ⟨m',φ',μ',_,qA,us,rfl,hA⟩;refine⟨m',φ',us,rfl,hA,Good.below qA.good (fun b ⟨r,hr,_⟩=>by cases hr)⟩
def LvsP.of:∀{zs:List (Gw.Lv×List PV)},(∀(i:Nat) (z:Gw.Lv×List PV),zs[i]?=some z→LvP z.1 (.ag z.2))→LvsP (zs.map (·.1)) (zs.map fun z=>.ag z.2)
 |[],_=>by simp only[CE,LvsP]
 |z::r,h=>by
  simp only[BC,LvsP];exact⟨_,_,rfl,h 0 z rfl,LvsP.of fun i z' hz=>h (i+1) z' (by simpa using hz)⟩
section
open Go.Gw Go.ChangeShapes Go.WideShapes Go.ChangeAt Go.RowKit
variable{H:Type}{enc:TypeId×Value→H}{P:Program}{W:World}
def jum{T S I:TypeId}{f0 f1 f2:Field}(hT:P.underlying T=some (.struct #[f0,f1,f2]))(hS:P.underlying S=some (.slice T))(hI:P.underlying I=some (.int .i64))(hc:P.cellsOf T=3)(gF:P.cellsOf S=1)(hD:P.cellsOf I=1)(hG:P.bytesOf T=40)
  (e0:f0.type=I) (o0:f0.offset=0) (e1:f1.type=I) (o1:f1.offset=1) (e2:f2.type=S) (o2:f2.offset=2) :
  ∀(fuel:Nat) (cs:List Value) (x:DataW H×List MemPlace),DataW.trod enc P W 0 (fun _=>true) true fuel T cs=some x→(∀n∈x.1.weights P T,n≤reachBytes)→∃l ps,LvP l (.ag ps)∧Rl (memB W) noPh ps cs∧ps.all cell=true∧cs.length=3:=by
 intro fuel
 induction fuel using Nat.strongRecOn with
 |_ fuel ih=>
  intro cs x h hw;obtain⟨xs,n,rfl,rfl,hlen,gD,hf⟩:=DataW.trod_struct hT h;rw[hc] at hlen;obtain⟨c0,c1,c2,rfl⟩:∃c0 c1 c2,cs=[c0,c1,c2]:=by
   match cs,hlen with
   |[c0,c1,c2],_=>exact⟨c0,c1,c2,rfl⟩
  obtain⟨y0,y1,y2,rfl⟩:∃y0 y1 y2,xs=[y0,y1,y2]:=by
   match xs,gD with
   |[y0,y1,y2],_=>exact⟨y0,y1,y2,rfl⟩
  have g0:=hf 0 f0 rfl;have g1:=hf 1 f1 rfl;have g2:=hf 2 f2 rfl;rw[e0,o0,hD] at g0;rw[e1,o1,hD] at g1;rw[e2,o2,gF] at g2
  replace g0:DataW.trod enc P W 0 (fun _=>true) true n I [c0]=some y0:=g0
  replace g1:DataW.trod enc P W 0 (fun _=>true) true n I [c1]=some y1:=g1
  replace g2:DataW.trod enc P W 0 (fun _=>true) true n S [c2]=some y2:=g2
  obtain⟨k,hk,_,wk⟩:=DataW.trod_int hI g0;obtain⟨q,hq,_,wq⟩:=DataW.trod_int hI g1;cases hk;cases hq;have qC:∀n∈y2.1.weights P S,n≤reachBytes:=fun u hu=>hw u (by
   simp only[DataW.weights,hT,BC,CE];refine DataW.weights_mem_each (j:=2) (t:=S) (d:=y2.1) ?_ rfl u hu;simp[e2])
  rcases DataW.trod_slice hS g2 with⟨hn,_⟩|⟨a,len,cap,elems,rest,n',rfl,qF,rfl,_,hl,qB,gG,wB,kG,_⟩
  ·cases hn;refine⟨.mk k q [],[iv k,iv q,.sl false 3 []],?_,.cons (.sc rfl) (.cons (.sc rfl) (.cons ?_ .nil)),rfl,rfl⟩
   ·simp only[LvP,LvsP];exact⟨_,_,_,rfl,.inl rfl,rfl,by simp⟩
   ·exact R.sl (xs:=[]) (b:=0) (off:=0) (g:=fun _=>[]) (by simp) (by simp) (by unfold maxLen;omega) (by simp) (by simp) (by simp) (by simp)
  ·cases qF;have hb:=qC ((elems.length+rest.length)*40) (by simp[DataW.weights,hS,hG])
   unfold reachBytes at hb;have hB:∀i,i<len→∃z:(Lv×List PV)×List Value,(LvP z.1.1 (.ag z.1.2)∧Rl (memB W) noPh z.1.2 z.2∧z.1.2.all cell=true∧z.2.length=3∧(∀j v,z.2[j]?=some v→memB W a.block (a.off+i*3+j)=some v))∧(i=0→a.spot=none):=fun i hi=>by
    have h1:=wB i hi;rw[hc,AA (by omega)] at h1
    obtain⟨cs',h2,h3⟩:=GF.1 h1;obtain⟨l,ps,wE,hE,hA,gB⟩:=ih n' (by omega) cs' _ h3 (fun u hu=>qC u (by
     simp only[DataW.weights,hS,AN,BJ];exact .inr (.inl (weightsAll_mem (DC.2 ⟨_,DH (by omega),rfl⟩) hu))))
    obtain⟨_,qG,gA⟩:=World.cells?_some h2;have gC:∀j,(hj:j<3)→Gw.Rd (memOf W) a.block (a.off+i*3+j) (cs'[j]'(by omega))∧(j=0→(a.add (i*3)).spot=none):=fun j hj=>by
     have h5:=gA j hj;rw[AA (by omega)] at h5
     have h4:=jpb (a:=a.add (i*3)) (i:=j) h5;rw[add_block,jmT] at h4;exact h4
    refine⟨((l,ps),cs'),⟨wE,hE,hA,gB,fun j v hj=>?_⟩,fun kF=>?_⟩
    ·obtain⟨hF,hv⟩:=AK.1 hj;have:=(gC j (by simp only at hF;omega)).1
     simp only at hv;rw[hv] at this;exact joM this
    ·have:=(gC 0 (by omega)).2 rfl
     subst kF;simpa[Addr.add] using this
   obtain⟨zs,wC,wA⟩:=jis hB;have hC:(zs.map fun z=>PV.ag z.1.2).length=len:=by simp[wC]
   refine⟨.mk k q (zs.map (·.1.1)),[iv k,iv q,.sl false 3 (zs.map fun z=>.ag z.1.2)],?_,.cons (.sc rfl) (.cons (.sc rfl) (.cons ?_ .nil)),rfl,rfl⟩
   ·simp only[LvP];refine⟨_,_,_,rfl,.inl rfl,?_,by simp[wC];omega⟩
    have:=LvsP.of (zs:=zs.map (·.1)) (fun i z hz=>by
     rw[BA] at hz;obtain⟨z',qD,rfl⟩:=BQ.1 hz;exact(wA i z' qD).1.1)
    simpa[Function.comp_def] using this
   ·have wD:=R.sl (m:=memB W) (φ:=noPh) (full:=false) (sz:=3) (xs:=zs.map fun z=>PV.ag z.1.2) (a:=some a) (cap:=cap) a.block a.off (fun i=>((zs[i]?).map (·.2)).getD []) (fun qE=>?_) (by omega) qB (by simp) (fun i x hx=>?_) (fun i x j c v hx wF hv=>?_) (fun e=>by cases e)
    ·rwa [hC] at wD
    ·have kE:0<len:=by
      rw[←hC];exact EH.2 qE
     have qA:=(wA 0 _ (AA (by omega))).2 rfl
     obtain⟨b,off,spot⟩:=a;obtain rfl:spot=none:=qA;rfl
    ·rw[BA] at hx;obtain⟨z,hz,rfl⟩:=BQ.1 hx;obtain⟨⟨_,h2,h3,h4,h5⟩,_⟩:=wA i z hz;simp only[hz,AY,CF];exact⟨by simp only[PV.cells];rw[h2.1,h4],h4,h5,h3⟩
    ·rw[BA] at hx;obtain⟨z,hz,rfl⟩:=BQ.1 hx;obtain⟨⟨_,h2,h3,h4,h5⟩,_⟩:=wA i z hz;simp only[hz,AY,CF] at hv;exact h2.2 j c v wF hv
end
open Go Go.Am
section
open Go.Gw Go.ChangeShapes Go.WideShapes Go.ChangeAt Go.RowKit
variable{H:Type}{enc:TypeId×Value→H}{P:Program}{W:World}
def jfh{α:Type}{V:α→PV→Prop}{T S:TypeId}{k by_:Nat}(hS:P.underlying S=some (.slice T))(hc:P.cellsOf T=k)(hk:0<k)(qF:P.bytesOf T=by_)
  (n:Nat) (c:Value) (y:DataW H×List MemPlace) (h:DataW.trod enc P W 0 (fun _=>true) true n S [c]=some y) (hw:∀u∈y.1.weights P S,u≤reachBytes)
  (ih:∀n'<n,∀(cs:List Value) (x:DataW H×List MemPlace),DataW.trod enc P W 0 (fun _=>true) true n' T cs=some x→(∀u∈x.1.weights P T,u≤reachBytes)→∃a ps,V a (.ag ps)∧Rl (memB W) noPh ps cs∧ps.all cell=true∧cs.length=k) :
  ∃zs:List (α×List PV),(∀(i:Nat) (z:α×List PV),zs[i]?=some z→V z.1 (.ag z.2))∧R (memB W) noPh (.sl false k (zs.map fun z=>.ag z.2)) c∧zs.length*by_≤reachBytes:=by
 rcases DataW.trod_slice hS h with⟨hn,_⟩|⟨a,len,cap,elems,rest,n',rfl,hF,rfl,_,hl,qB,wE,wB,gF,_⟩
 ·cases hn;refine⟨[],by simp,?_,by simp⟩
  exact R.sl (xs:=[]) (b:=0) (off:=0) (g:=fun _=>[]) (by simp) (by simp) (by unfold maxLen;omega) (by simp) (by simp) (by simp) (by simp)
 ·cases hF;have hb:=hw ((elems.length+rest.length)*by_) (by simp[DataW.weights,hS,qF])
  have hB:∀i,i<len→∃z:(α×List PV)×List Value,(V z.1.1 (.ag z.1.2)∧Rl (memB W) noPh z.1.2 z.2∧z.1.2.all cell=true∧z.2.length=k∧(∀j v,z.2[j]?=some v→memB W a.block (a.off+i*k+j)=some v))∧(i=0→a.spot=none):=fun i hi=>by
   have h1:=wB i hi;rw[hc,AA (by omega)] at h1
   obtain⟨cs',h2,h3⟩:=GF.1 h1;obtain⟨l,ps,hE,qD,hA,gB⟩:=ih n' (by omega) cs' _ h3 (fun u hu=>hw u (by
    simp only[DataW.weights,hS,AN,BJ];exact .inr (.inl (weightsAll_mem (DC.2 ⟨_,DH (by omega),rfl⟩) hu))))
   obtain⟨_,wF,gA⟩:=World.cells?_some h2;have gC:∀j,(hj:j<k)→Gw.Rd (memOf W) a.block (a.off+i*k+j) (cs'[j]'(by omega))∧(j=0→(a.add (i*k)).spot=none):=fun j hj=>by
    have h5:=gA j hj;rw[AA (by omega)] at h5
    have h4:=jpb (a:=a.add (i*k)) (i:=j) h5;rw[add_block,jmT] at h4;exact h4
   refine⟨((l,ps),cs'),⟨hE,qD,hA,gB,fun j v hj=>?_⟩,fun qE=>?_⟩
   ·obtain⟨kE,hv⟩:=AK.1 hj;have:=(gC j (by simp only at kE;omega)).1
    simp only at hv;rw[hv] at this;exact joM this
   ·have:=(gC 0 (by omega)).2 rfl
    subst qE;simpa[Addr.add] using this
  obtain⟨zs,wC,wA⟩:=jis hB;have hC:(zs.map fun z=>PV.ag z.1.2).length=len:=by simp[wC]
  refine⟨zs.map (·.1),fun i z hz=>?_,?_,?_⟩
  ·rw[BA] at hz;obtain⟨z',hD,rfl⟩:=BQ.1 hz;exact(wA i z' hD).1.1
  ·rw[FX];have qC:=R.sl (m:=memB W) (φ:=noPh) (full:=false) (sz:=k) (xs:=zs.map fun z=>PV.ag z.1.2) (a:=some a) (cap:=cap) a.block a.off (fun i=>((zs[i]?).map (·.2)).getD []) (fun wD=>?_) (by omega) qB (by simp) (fun i x hx=>?_) (fun i x j c v hx kF hv=>?_) (fun e=>by cases e)
   ·rw[hC] at qC;exact qC
   ·have gD:0<len:=by
     rw[←hC];exact EH.2 wD
    have qA:=(wA 0 _ (AA (by omega))).2 rfl
    obtain⟨b,off,spot⟩:=a;obtain rfl:spot=none:=qA;rfl
   ·rw[BA] at hx;obtain⟨z,hz,rfl⟩:=BQ.1 hx;obtain⟨⟨_,h2,h3,h4,h5⟩,_⟩:=wA i z hz;simp only[hz,AY,CF];exact⟨by simp only[PV.cells];rw[h2.1,h4],h4,h5,h3⟩
   ·rw[BA] at hx;obtain⟨z,hz,rfl⟩:=BQ.1 hx;obtain⟨⟨_,h2,h3,h4,h5⟩,_⟩:=wA i z hz;simp only[hz,AY,CF] at hv;exact h2.2 j c v kF hv
  ·rw[AZ,wC,←wE];exact BL (CZ _ (Nat.le_add_right _ _)) hb
def TmsP.of:∀{zs:List (Tm×List PV)},(∀(i:Nat) (z:Tm×List PV),zs[i]?=some z→TmP z.1 (.ag z.2))→TmsP (zs.map (·.1)) (zs.map fun z=>.ag z.2)
 |[],_=>by simp only[CE,TmsP]
 |z::r,h=>by
  simp only[BC,TmsP];exact⟨_,_,rfl,h 0 z rfl,TmsP.of fun i z' hz=>h (i+1) z' (by simpa using hz)⟩
def juM{T S L SL I B:TypeId}{f0 f1 f2 f3 f4 g0 g1 g2:Field}(hT:P.underlying T=some (.struct #[f0,f1,f2,f3,f4]))(hS:P.underlying S=some (.slice T))(hL:P.underlying L=some (.struct #[g0,g1,g2]))(gD:P.underlying SL=some (.slice L))(hI:P.underlying I=some (.int .i64))(hB:P.underlying B=some .string)
  (hc:P.cellsOf T=5) (hF:P.cellsOf S=1) (qD:P.cellsOf L=3) (hA:P.cellsOf SL=1) (hD:P.cellsOf I=1) (kF:P.cellsOf B=1) (qF:P.bytesOf T=80) (qA:P.bytesOf L=40)
  (e0:f0.type=I) (o0:f0.offset=0) (e1:f1.type=I) (o1:f1.offset=1) (e2:f2.type=B) (o2:f2.offset=2) (e3:f3.type=SL) (o3:f3.offset=3) (e4:f4.type=S) (o4:f4.offset=4)
  (a0:g0.type=I) (b0:g0.offset=0) (a1:g1.type=I) (b1:g1.offset=1) (a2:g2.type=SL) (b2:g2.offset=2) :
  ∀(fuel:Nat) (cs:List Value) (x:DataW H×List MemPlace),DataW.trod enc P W 0 (fun _=>true) true fuel T cs=some x→(∀n∈x.1.weights P T,n≤reachBytes)→∃t ps,TmP t (.ag ps)∧Rl (memB W) noPh ps cs∧ps.all cell=true∧cs.length=5:=by
 intro fuel
 induction fuel using Nat.strongRecOn with
 |_ fuel ih=>
  intro cs x h hw;obtain⟨xs,n,rfl,rfl,hlen,wD,hf⟩:=DataW.trod_struct hT h;rw[hc] at hlen;obtain⟨c0,c1,c2,c3,c4,rfl⟩:∃c0 c1 c2 c3 c4,cs=[c0,c1,c2,c3,c4]:=by
   match cs,hlen with
   |[c0,c1,c2,c3,c4],_=>exact⟨c0,c1,c2,c3,c4,rfl⟩
  obtain⟨y0,y1,y2,y3,y4,rfl⟩:∃y0 y1 y2 y3 y4,xs=[y0,y1,y2,y3,y4]:=by
   match xs,wD with
   |[y0,y1,y2,y3,y4],_=>exact⟨y0,y1,y2,y3,y4,rfl⟩
  have g0:=hf 0 f0 rfl;have g1:=hf 1 f1 rfl;have g2:=hf 2 f2 rfl;have g3:=hf 3 f3 rfl;have g4:=hf 4 f4 rfl;rw[e0,o0,hD] at g0;rw[e1,o1,hD] at g1;rw[e2,o2,kF] at g2;rw[e3,o3,hA] at g3;rw[e4,o4,hF] at g4
  replace g0:DataW.trod enc P W 0 (fun _=>true) true n I [c0]=some y0:=g0
  replace g1:DataW.trod enc P W 0 (fun _=>true) true n I [c1]=some y1:=g1
  replace g2:DataW.trod enc P W 0 (fun _=>true) true n B [c2]=some y2:=g2
  replace g3:DataW.trod enc P W 0 (fun _=>true) true n SL [c3]=some y3:=g3
  replace g4:DataW.trod enc P W 0 (fun _=>true) true n S [c4]=some y4:=g4
  obtain⟨k,hk,_,wk⟩:=DataW.trod_int hI g0;obtain⟨q,hq,_,wq⟩:=DataW.trod_int hI g1;obtain⟨s,hs,rfl,_⟩:=DataW.trod_string hB g2;cases hk;cases hq;cases hs;have wA:∀(j:Nat) (t:TypeId) (d:DataW H),([f0.type,f1.type,f2.type,f3.type,f4.type]:List TypeId)[j]?=some t→([y0.1,y1.1,.lit (.string s.data.toList),y3.1,y4.1]:List (DataW H))[j]?=some d→∀n∈d.weights P t,n≤reachBytes:=fun j t d hj hd u hu=>hw u (by
   simp only[DataW.weights,hT,BC,CE];exact DataW.weights_mem_each (j:=j) hj hd u hu)
  have qE:s.data.toList.length≤reachBytes:=wA 2 B _ (by simp[e2]) rfl _ (by simp[DataW.weights])
  have kE:=wA 3 SL y3.1 (by simp[e3]) rfl
  have hE:=wA 4 S y4.1 (by simp[e4]) rfl
  obtain⟨ls,wC,gC,qC⟩:=jfh (V:=LvP) gD qD (by omega) qA n c3 y3 g3 kE (fun n' _ cs' x' gA qB=>jum hL gD hI qD hA hD qA a0 b0 a1 b1 a2 b2 n' cs' x' gA qB)
  obtain⟨ts,hC,wB,gB⟩:=jfh (V:=TmP) hS hc (by omega) qF n c4 y4 g4 hE (fun n' gF cs' x' gA qB=>ih n' (by omega) cs' x' gA qB)
  unfold reachBytes at qE qC gB;have wE:i64 q:=by
   have:(Lit.int .i64 q).wf=true:=wq;simp[Lit.wf,IntKind.min,IntKind.max,IntKind.signed,IntKind.bits] at this;unfold i64;omega
  refine⟨.mk k q s.data.toList (ls.map (·.1)) (ts.map (·.1)),[iv k,iv q,sv s.data.toList,.sl false 3 (ls.map fun z=>.ag z.2),.sl false 5 (ts.map fun z=>.ag z.2)],?_,.cons (.sc rfl) (.cons (.sc rfl) (.cons ?_ (.cons gC (.cons wB .nil)))),rfl,rfl⟩
  ·simp only[TmP];exact⟨_,_,_,_,_,_,rfl,.inl rfl,LvsP.of wC,by rw[AZ];omega,.inl rfl,TmsP.of hC,by rw[AZ];omega,by omega,wE⟩
  ·rw[jcf s];exact .sc rfl
end
open Go Go.ChangeShapes Go.WideShapes Go.ChangeAt Go.RowKit
def juD:ownKnob Tryz.prog.godebug=none:=by kernel_rfl
def jty:laidOutB Tryz.prog=true:=by kernel_rfl
def jtv:Tryz.prog.readableRec 3=true∧3<Tryz.prog.types.size:=⟨by kernel_rfl,of_decide_eq_true (by kernel_rfl)⟩
def jpw : "*errors.errorString" = "*" ++ "errors.errorString" :=rfl
def jsj (u:TypeId) (h:Tryz.prog.typeName? 3 u=some "*errors.errorString"):u=367:=
 typeName_ptr_named (nm:= "errors.errorString") (by rw[←jpw];kernel_rfl) (by kernel_rfl) (by decide) u (by rw[←jpw];exact h)
def j7Y{n:String}{g:Nat}{cs:Array Value}(hg:Tryz.prog.globalNamed n=some g)(h:W.var? Tryz.prog n=some cs):∃T fr,W.heap[g]?=some (.cells cs T fr):=by
 unfold World.var? at h;rw[hg,EF] at h;split at h
 ·rename_i c T fr e;cases h;exact⟨T,fr,e⟩
 ·cases h
def joL(hA:W.ShapedOpen Tryz.prog):∃cs T fr,(∃m,cs = #[.int .i64 m])∧W.heap[3]?=some (.cells cs T fr):=by
 have hg:3<Tryz.prog.globals.size:=of_decide_eq_true (by kernel_rfl)
 have h0:((begin Tryz.prog (fun _ _=>0) default).world.heap[3]?).bind Obj.row?=some (#[.int .i64 0],3):=by kernel_rfl
 obtain⟨m,hm⟩:=cell_of_shapedOpen_int hA hg h0 rfl (by kernel_rfl) (by kernel_rfl) Tryz.underlying3
 obtain⟨cs,hh,hs,hr⟩:=hA.1 _ _ _ hg h0;refine⟨cs,_,_,⟨m,?_⟩,hh⟩;have h1:cs.size=1:=hs;simp only[World.cell?,hh] at hm;obtain⟨l⟩:=cs;match l,h1 with
 |[x],_=>
  simp at hm;rw[hm]
def base_of(h:laidMetH Tryz.prog Rows.convFuelRow.laid W)(gA:W.ShapedOpen Tryz.prog):∀b p,Hb.base b=some p→∃cs T fr,p cs∧W.heap[b]?=some (.cells cs T fr):=by
 rw[MakeChecks.laidMetH_plain _ _ _ (by kernel_rfl)] at h
 have h2:laidMet Tryz.prog (("internal/strconv.uint64pow10",Lib.tabData .u64 Lib.pow10Tab)::Rows.convFuelRow.laid.drop 3) W:=laidMet.tail (laidMet.tail h)
 have h4:laidMet Tryz.prog (("strconv.ErrRange",Rows.laid_strconv_ErrRange)::Rows.convFuelRow.laid.drop 5) W:=laidMet.tail (laidMet.tail h2)
 have h5:laidMet Tryz.prog (("strconv.ErrSyntax",Rows.laid_strconv_ErrSyntax)::Rows.convFuelRow.laid.drop 6) W:=laidMet.tail h4
 have ht:=Lib.tabIs_of_head (g:=0) (by kernel_rfl) (by kernel_rfl) Tryz.underlying325 Tryz.underlying296 (by kernel_rfl) (by kernel_rfl) h2
 obtain⟨a4,s4,qA,-⟩:=laid_sentinel (g:=5) h4 (by kernel_rfl) (by kernel_rfl) Tryz.underlying245 jsj Tryz.underlying367 Tryz.underlying369 rfl rfl Tryz.underlying9 (by kernel_rfl) (by kernel_rfl)
 obtain⟨a5,s5,hA,-⟩:=laid_sentinel (g:=4) h5 (by kernel_rfl) (by kernel_rfl) Tryz.underlying245 jsj Tryz.underlying367 Tryz.underlying369 rfl rfl Tryz.underlying9 (by kernel_rfl) (by kernel_rfl)
 intro b p hb;unfold Hb.base at hb;split at hb
 ·rename_i e;subst e;cases hb;obtain⟨T,fr,e⟩:=j7Y (by kernel_rfl) ht
  exact⟨_,T,fr,rfl,e⟩
 ·split at hb
  ·rename_i e;subst e;cases hb;exact joL gA
  ·split at hb
   ·rename_i e;subst e;cases hb;obtain⟨T,fr,e⟩:=j7Y (by kernel_rfl) hA
    exact⟨_,T,fr,⟨_,_,rfl⟩,e⟩
   ·split at hb
    ·rename_i e;subst e;cases hb;obtain⟨T,fr,e⟩:=j7Y (by kernel_rfl) qA
     exact⟨_,T,fr,⟨_,_,rfl⟩,e⟩
    ·cases hb
section
variable{H:Type}{enc:TypeId×Value→H}{W:World}{r:Reach}{b0:Nat}{v:Value}{d:DataW H}{ps:List MemPlace}
def jtb(hv:Value.okWide Tryz.prog W r b0 3 v)(h:DataW.Trod enc Tryz.prog W 0 (fun _=>true) true 3 v d ps):∃n,Am.R (memB W) Am.noPh (iv n) v∧Gw.i64 n:=by
 obtain⟨a0,rfl,rfl,rfl,w0⟩:=open_int Tryz.underlying3 hv h;refine⟨a0,.sc rfl,?_⟩;simp[Lit.wf,IntKind.min,IntKind.max,IntKind.signed,IntKind.bits] at w0;unfold Gw.i64;omega
end
open Go Go.Am Go.Gw
open Go Go.Am Go.Gw
def ints(l:List Int):List PV:=l.map fun n=>iv n
def jvx(f:Int→Int):SO:=.box 185 [iv (f 0),iv (f 1),iv (f 2),iv (f 3)]
open Go Go.ChangeShapes Go.WideShapes Go.ChangeAt Go.RowKit
section
open Go.Gw Go.Am
variable{H:Type}{enc:TypeId×Value→H}{P:Program}{W:World}
end
section
variable{H:Type}{enc:TypeId×Value→H}{W:World}{r:Reach}{b0:Nat}{v:Value}{d:DataW H}{ps:List MemPlace}
end
def jey{H:Type}{enc:TypeId×Value→H}{a:Assume}{C:Checked}{os:Os}{fn:Func}{s:ChangeSpec}{conds:List PathCond}{apart fresh hA again:Bool}{X:World→Array Value→Prop}
  (hX:∀(w w':World) (args:Array Value),w.heap=w'.heap→X w args→X w' args)
  (own:ownKnob C.prog.godebug=none) (started:os.Started) (noInit:C.prog.inits.idxOf? f=none) (wB:C.prog.funcs[f]?=some fn)
  (witness:∃(w:World) (tape:Tape) (i:Input),w.os=os∧(w.forCall tape i).Shaped C.prog∧i.vars=[]∧Input.okWide C.prog (w.forCall tape i) .any w.heap.size f i ∧
   ((s.pre enc C.prog fn conds apart (w.forCall tape i).memory i.args∧X (w.forCall tape i).memory i.args)∧sizedMet enc C.prog fn (OpenSpec.ofChange s) apart (w.forCall tape i).memory i.args)∧a.holds C.prog (lone (Frame.enter C.prog f i.args .normal) [] (w.forCall tape i)))
  (contract:∀(W:World) (base:Nat) (args:Array Value) (ds gs:List (DataW H)) (before:List MemPlace),
   (∀(j:Nat) t v,fn.params[j]?=some t→args[j]?=some v→Value.okWide C.prog W .any base t v) →
   DataW.Whole enc C.prog fn.params.toList s.vars apart W args.toList ds gs before →
   conds.all (PathCond.test C.prog ⟨fn.params.toList,ds,s.plain.varTypes C.prog,gs⟩)=true →
   (DataW.weightsEach C.prog (fn.params.toList++s.plain.varTypes C.prog) (ds++gs)).all (· ≤reachBytes)=true→X W args→W.ShapedOpen C.prog →
   a.holds C.prog (lone (Frame.enter C.prog f args .normal) [] W) →
   Calls C.prog f args W fun e W'=>∃v,e=.returned v∧s.post enc C.prog fn apart fresh hA again W args v W') :
  ReturnsInHanded a C os f .any (fun w args=>(s.pre enc C.prog fn conds apart w args∧X w args)∧sizedMet enc C.prog fn (OpenSpec.ofChange s) apart w args) (s.post enc C.prog fn apart fresh hA again):=by
 refine returnsInHanded_of_calls own started noInit witness ?_
 intro w tape i _ qB _ gB hpre qA;obtain⟨_,_,_,fn',wA,_,_,_,_,gA⟩:=gB;have e:fn'=fn:=BP (wA.symm.trans wB);subst e;obtain⟨⟨⟨ds,gs,before,hw,hc⟩,hx⟩,hz⟩:=hpre;have hB:=DataW.Whole.of_heap (w':=w.forCall tape i) (by rfl) hw
 refine(contract (w.forCall tape i) w.heap.size i.args ds gs before gA hB hc (hz.weights hw) (hX _ _ _ (by rfl) hx) qB qA).mono fun e W' ⟨v,he,hp⟩=>?_
 subst he;exact ChangeSpec.post_blind hp

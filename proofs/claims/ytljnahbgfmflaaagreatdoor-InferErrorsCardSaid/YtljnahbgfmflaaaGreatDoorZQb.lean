/-
  Types that are held against each other (package infer), as plain functions by ticks. No program in sight.
-/
import Derived.Test.YtljnahbgfmflaaaGreatDoorZKt
import Derived.Test.YtljnahbgfmflaaaGreatDoorZIs
import Derived.Test.YtljnahbgfmflaaaGreatDoorZRb
import Derived.Test.YtljnahbgfmflaaaGreatDoorRows
import Derived.JoinedOf
import Derived.LaidMore
import Derived.Lay
import Derived.Stop.LaidErr
import Derived.SevenTiedAt
import Derived.Stop.Joined
import Derived.Shelf.Vars
set_option linter.unusedVariables false
set_option maxHeartbeats 1000000
set_option maxRecDepth 100000
set_option linter.unusedSimpArgs false
set_option linter.unnecessarySimpa false
namespace Go.Proofs.YtljnahbgfmflaaaGreatDoor
open Go Go.Am Go.Gw
section
variable (E:Nv) (n:Nat) (I:List Tm→Tm→M Tm)
noncomputable def levB (x:Tm):M Lv:=bnd (ja8 E n x) fun s=>bnd (j2O (decide (s.kind=2)) 19) fun _=>mok s.lv
noncomputable def jaR (ctx:List Tm) (t:Tm):M Lv:=bnd (I ctx t) fun x=>levB E n x
noncomputable def jgc (ctx:List Tm) (t typ:Tm):M Unit:=bnd (I ctx t) fun a=>bnd (jeq E n ctx a typ) fun ok=>j2O ok 18
noncomputable def joU (ctx:List Tm) (t:Tm):M Tm:=bnd (I ctx (t.arg 0)) fun y=>bnd (ja8 E n y) fun f=>bnd (j2O (decide (f.kind=6)) 20) fun _=>bnd (jgc E n I ctx (t.arg 1) (f.arg 0)) fun _=>j4b (InstF (f.arg 1) [t.arg 1])
def jgP (ctx:List Tm) (t body:Tm):M Tm:=bnd (j7u ctx t) fun c2=>I c2 body
noncomputable def jot (ctx:List Tm) (t:Tm):M Tm:=bnd (jaR E n I ctx (t.arg 0)) fun _=>bnd (jgP I ctx (t.arg 0) (t.arg 1)) fun b=>j4b (some (overR 6 [t.arg 0] b))
noncomputable def ipiB (ctx:List Tm) (t:Tm):M Tm:=bnd (jaR E n I ctx (t.arg 0)) fun l=>bnd (bnd (jgP I ctx (t.arg 0) (t.arg 1)) fun b=>levB E n b) fun m=>bnd (j5S (j7I l m)) fun x=>mok (jcE x)
noncomputable def jpa (ctx:List Tm) (t:Tm):M Tm:=bnd (jaR E n I ctx (t.arg 0)) fun _=>bnd (jgc E n I ctx (t.arg 1) (t.arg 0)) fun _=>bnd (j4b (InstF (t.arg 2) [t.arg 1])) fun b=>I ctx b
noncomputable def jhl (ctx:List Tm) (t:Tm):M Tm :=
 if t.kind=4 then joU E n I ctx t else if t.kind=5 then jot E n I ctx t else if t.kind=6 then ipiB E n I ctx t else if t.kind=7 then jpa E n I ctx t else jg2 E n ctx t
noncomputable def jjF (ctx:List Tm) (t:Tm):M Tm:=bnd j4p fun _=>jhl E n I ctx t
end
noncomputable def jhc (E:Nv) (n:Nat):List Tm→Tm→M Tm:=Nat.rec (motive:=fun _=>List Tm→Tm→M Tm) (fun _ _ _=>none) (fun m I ctx t=>jjF E m I ctx t) n
noncomputable def j3j (E:Nv) (n:Nat) (ctx:List Tm) (t:Tm):M Tm:=bnd (j2O (j1h ctx [t]) 10) fun _=>jhc E n ctx t
noncomputable def jnN (E:Nv) (n:Nat) (ctx:List Tm) (t:Tm):M Lv:=bnd (j3j E n ctx t) fun x=>levB E n x
noncomputable def jfa (E:Nv) (n:Nat) (ctx:List Tm) (t typ:Tm):M Unit:=bnd (j3j E n ctx t) fun a=>bnd (jeq E n ctx a typ) fun ok=>j2O ok 18
noncomputable def joZ (E:Nv) (n:Nat) (c:List Tm):List Tm→M Unit
 |[]=>mok ()
 |t :: r=>bnd (jaR E n (jhc E n) c t) fun _=>joZ E n (c ++ [t]) r
noncomputable def j6B (E:Nv) (n:Nat) (ctx:List Tm):M Unit:=bnd (j2O (j1h ctx []) 10) fun _=>joZ E n [] ctx
section
variable {E:Nv} {n m:Nat} {I J:List Tm→Tm→M Tm}
theorem jaH (c:List Tm) (t:Tm):Fine (jg2 E n c t):=j0b (j0W (by omega)) fun _=>j5B n c t
theorem j7l (c:List Tm) (a b:Tm):Fine (jeq E n c a b):=j0b (j0W (by omega)) fun _=>j7i n c a b
theorem jha (x:Tm):Fine (levB E n x):=j0b (j1E n x) fun _=>j0b (j0W (by omega)) fun _=>j0p _
theorem j2p (h:∀ c t,Fine (I c t)) (c:List Tm) (t:Tm):Fine (jaR E n I c t):=j0b (h c t) fun _=>jha _
theorem j7C (h:∀ c t,Fine (I c t)) (c:List Tm) (t u:Tm):Fine (jgc E n I c t u):=j0b (h c t) fun _=>j0b (j7l _ _ _) fun _=>j0W (by omega)
theorem j5n (h:∀ c t,Fine (I c t)) (c:List Tm) (t u:Tm):Fine (jgP I c t u):=j0b (j5b _ _) fun _=>h _ _
theorem jfm (h:∀ c t,Fine (I c t)) (c:List Tm) (t:Tm):Fine (jhl E n I c t):=by
 unfold jhl
 split
 ·exact j0b (h _ _) fun _=>j0b (j1E n _) fun _=>j0b (j0W (by omega)) fun _=>j0b (j7C h _ _ _) fun _=>j1W _
 split
 ·exact j0b (j2p h _ _) fun _=>j0b (j5n h _ _ _) fun _=>j1W _
 split
 ·exact j0b (j2p h _ _) fun _=>j0b (j0b (j5n h _ _ _) fun _=>jha _) fun _=>j0b (j7k _) fun _=>j0p _
 split
 ·exact j0b (j2p h _ _) fun _=>j0b (j7C h _ _ _) fun _=>j0b (j1W _) fun _=>h _ _
 ·exact jaH _ _
theorem j2U:∀ (n:Nat) (c:List Tm) (t:Tm),Fine (jhc E n c t)
 |0,_,_=>j6q
 |n + 1,c,t=>j0b j2W fun _=>jfm (j2U n) c t
end
section
variable {E:Nv} {q:Int}
end
open Go Go.Am Go.Gw
abbrev xI:PV:=.ci [.ci [.bp 0 0]]
def IrT (f:FuncId) (args cs:List PV) (tot l:Int) (r:Except Int Tm) (l':Int):Prop:=match r with
 | .ok x=>(shT x=true∧sizT x ≤ 2000)∧∃ w,TmP x w∧Fr f args cs tot l (.ret [w,iv 0]) l'
 | .error e=>¬ e=0∧Fr f args cs tot l (.ret [.ag zTm,iv e]) l'
def IrL (f:FuncId) (args cs:List PV) (tot l:Int) (r:Except Int Lv) (l':Int):Prop:=match r with
 | .ok x=>∃ w,LvP x w∧Fr f args cs tot l (.ret [w,iv 0]) l'
 | .error e=>¬ e=0∧Fr f args cs tot l (.ret [.ag zLv,iv e]) l'
def IrU (f:FuncId) (args cs:List PV) (tot l:Int) (r:Except Int Unit) (l':Int):Prop:=match r with
 | .ok _=>Fr f args cs tot l (.ret [iv 0]) l'
 | .error e=>¬ e=0∧Fr f args cs tot l (.ret [iv e]) l'
def jan (cs:List PV) (tot:Int) (I:List Tm→Tm→M Tm):Prop:=∀ ctx cv,CtxP ctx cv→∀ t v,TmP t v→shT t=true→∀ l r l',0 ≤ l→l ≤ tot→I ctx t l=some (r,l')→IrT 63 [xI,cv,v] cs tot l r l'
theorem kids {t:Tm} {v:PV} (h:TmP t v) (hs:shT t=true):∃ n s b z xs c y ys,v = .ag [iv t.kind,iv n,sv s,.sl b z xs,.sl c y ys]∧(y=5∨ys=[])∧∀ i:Nat,(i:Int) < j0T t.kind→∃ a,ys[i]? = some a∧TmP (t.arg i) a∧shT (t.arg i)=true:=by
 obtain ⟨k1,n1,s1,l1,t1,b1,z1,x1,c1,y1,ys1,rfl,rfl,hz1,hx1,-,-,hy1,hys1,-⟩:=h.open
 obtain ⟨a1,a2,a3,a4,a5,a6⟩:=j0q hs
 refine ⟨_,_,_,_,_,_,_,_,rfl,hy1,fun i hi=>?_⟩
 have hi':(i:Int) < j0T k1:=hi
 have hg:=getD_at (ts:=t1) (i:=i) (by omega)
 obtain ⟨a,ha,hp⟩:=hys1.at hg
 exact ⟨a,ha,hp,a5 _ (List.mem_of_getElem? hg)⟩
theorem jew (cs:List PV) (tot l:Int):Fr 60 [.bp 0 0] cs tot l (.ret [xI]) l:=by
 have hc:=jfj cs tot l
 refine j00 Tryz.func60 rfl rfl rfl ?_
 repeat' ((conv=>whnf);first|refine j02 hc rfl rfl rfl rfl rfl rfl rfl ?_)
 all_goals (try (conv=>whnf))
 show VRet C1 _ 1 [.bp 1 0] [runB cs tot l,.box 103 [.ci [.bp 0 0]]] _
 exact j1t (.inr ⟨rfl,rfl⟩) rfl rfl rfl ⟨rfl,rfl⟩
theorem jjQ (cs:List PV) (tot l:Int):Fr 28 [xI] cs tot l (.ret [.ci [.bp 0 0]]) l:=by
 refine j00 Tryz.func28 rfl rfl rfl ?_
 skip
 all_goals (try (conv=>whnf))
 all_goals first|exact ⟨rfl,rfl⟩|skip
 show VRet C1 _ 1 [.ci [.bp 0 0]] [.box 84 [.cp cs,iv (tot - l),iv l]] _
 exact j1t (.inr ⟨rfl,rfl⟩) rfl rfl rfl ⟨rfl,rfl⟩
theorem jaL (t:Tm) (v:PV) (h:TmP t v) (b:Bool) (z:Nat) (xs:List PV) (n:Nat) (hn:xs.length=n):Pf C1 62 [.sl b z xs,v] [bv (j0L t 4 n)]:=by
 have hr:=j0P t v h 4 n
 subst hn
 obtain ⟨k1,n1,s1,l1,t1,b1,z1,x1,c1,y1,ys1,-,rfl,-⟩:=h.open
 refine j00 Tryz.func62 rfl rfl rfl ?_
 repeat' ((conv=>whnf);first|refine j04 rfl ?_|refine j01 hr rfl rfl ?_)
 all_goals (try (conv=>whnf))
 all_goals rfl
theorem j9M (ctx:List Tm) (b:Bool) (z:Nat) (xs:List PV) (hz:z=5∨xs=[]) (hxs:TmsP ctx xs):Pf C1 61 [.sl b z xs] [bv (j1h ctx [])]:=by
 have hlen:=hxs.len
 have he:j1h ctx []=(decide (ctx.length ≤ 64) && ctxF ctx 0):=by
  unfold j1h
  simp
 rw [he]
 refine j00 Tryz.func61 rfl rfl rfl ?_
 repeat' ((conv=>whnf);first|apply gE<;>intro h|refine j04 rfl ?_)
 all_goals (try (conv=>whnf))
 ·refine j1R ?_
  rw [decide_eq_false (by omega)]
  rfl
 rw [decide_eq_true (by omega:ctx.length ≤ 64)]
 refine j09 (G:=Nat) (fun i=>[(10,iv i)]) (fun _=>_) (fun i=>i ≤ ctx.length∧ctxF (ctx.drop i) i=ctxF ctx 0) (fun i=>ctx.length - i) 0 ⟨by omega,rfl⟩ rfl rfl ?_
 rintro i ⟨hi,hall⟩
 dsimp only at hi hall ⊢
 repeat' ((conv=>whnf);first|apply gE<;>intro h|apply gQ|refine j04 rfl ?_)
 all_goals (try (conv=>whnf))
 ·have hi':i < ctx.length:=by omega
  obtain ⟨tc,htc⟩:∃ tc,ctx[i]? = some tc:=⟨_,List.getElem?_eq_getElem hi'⟩
  obtain ⟨v,hv,hl⟩:=hxs.at htc
  have hw:=jaL tc v hl (b && Nat.beq i xs.length) z ((xs.take i).drop 0) i (by simp; omega)
  have hle:(i.ble xs.length && Nat.ble 0 i)=true:=by simp only [Nat.ble_eq,Bool.and_eq_true]; omega
  obtain ⟨k1,n1,s1,l1,t1,b1,z1,x1,c1,y1,ys1,-,rfl,-⟩:=hl.open
  rw [jdj htc] at hall
  repeat' ((conv=>whnf);first|apply gN|apply gM<;>intro h|apply gO|apply gP|apply gQ|refine gV ?_|refine j04 rfl ?_|refine VIdx.mk _ hv ?_|refine VOk.mk (j07 rfl hz) ?_|refine VOk.mk hle ?_|refine j05 hw (fun _=>?_)|apply gK)
  all_goals (try (conv=>whnf))
  ·have hr:j0L tc 4 i=true:=by assumption
   rw [hr,Bool.true_and] at hall
   exact VAgain.mk _ rfl _ (j0h rfl rfl rfl) ⟨i + 1,⟨hi',hall⟩,by omega,rfl⟩
  ·have hr:j0L tc 4 i=false:=by assumption
   rw [hr,Bool.false_and] at hall
   rw [← hall]
   rfl
 ·have hl:i=ctx.length:=by omega
  subst hl
  rw [List.drop_length] at hall
  refine j1R ?_
  rw [← hall]
  simp [ctxF]
theorem jjc (t:Tm) (v:PV) (h:TmP t v):Pf C1 147 [v,bv false] [.ag zTm,iv 15]:=by
 obtain ⟨k1,n1,s1,l1,t1,b1,z1,x1,c1,y1,ys1,-,rfl,-⟩:=h.open
 refine j00 Tryz.func147 rfl rfl rfl ?_
 repeat' ((conv=>whnf);first|apply gT|apply gO|refine j04 rfl ?_)
 all_goals (try (conv=>whnf))
 all_goals rfl
theorem jjU (t:Tm) (v:PV) (h:TmP t v) (hn:j0x t ≤ 2000):Pf C1 147 [v,bv true] [v,iv 0]:=by
 have h1:=j1A t v h
 obtain ⟨k1,n1,s1,l1,t1,b1,z1,x1,c1,y1,ys1,-,rfl,-⟩:=h.open
 refine j00 Tryz.func147 rfl rfl rfl ?_
 repeat' ((conv=>whnf);first|apply gF|apply gE<;>intro h|apply gO|refine j04 rfl ?_|refine j01 h1 rfl rfl ?_)
 all_goals (try (conv=>whnf))
 all_goals first|rfl|(exfalso; omega)
theorem jiq (t:Tm) (v:PV) (h:TmP t v) (hn:¬ j0x t ≤ 2000):Pf C1 147 [v,bv true] [.ag zTm,iv 15]:=by
 have h1:=j1A t v h
 obtain ⟨k1,n1,s1,l1,t1,b1,z1,x1,c1,y1,ys1,-,rfl,-⟩:=h.open
 refine j00 Tryz.func147 rfl rfl rfl ?_
 repeat' ((conv=>whnf);first|apply gF|apply gE<;>intro h|apply gO|refine j04 rfl ?_|refine j01 h1 rfl rfl ?_)
 all_goals (try (conv=>whnf))
 all_goals first|rfl|(exfalso; omega)
theorem j6M (o:Option Tm) (wo:PV) (h:TmP (o.getD tz) wo) {l l':Int} {r:Except Int Tm} (hx:j4b o l=some (r,l')):l'=l∧match r with
  | .ok x=>o=some x∧sizT x ≤ 2000∧Pf C1 147 [wo,bv o.isSome] [wo,iv 0]
  | .error e=>e=15∧Pf C1 147 [wo,bv o.isSome] [.ag zTm,iv 15]:=by
 cases o with
 |none =>
  cases hx
  exact ⟨rfl,rfl,jjc _ _ h⟩
 |some x =>
  simp only [j4b,bnd,optF,mok] at hx
  by_cases hn:j0x x ≤ 2000
  ·rw [decide_eq_true hn] at hx
   cases hx
   exact ⟨rfl,rfl,j3I hn,jjU _ _ h hn⟩
  ·rw [decide_eq_false hn] at hx
   cases hx
   exact ⟨rfl,rfl,jiq _ _ h hn⟩
theorem j7E (cs:List PV) (tot l:Int) (k n:Int) (s:List UInt8) (b:Bool) (z:Nat) (xs:List PV) (c:Bool) (y:Nat) (ys:List PV) (e:Int) (he:¬ e=0):Fr 86 [xI,.ag [iv k,iv n,sv s,.sl b z xs,.sl c y ys],iv e] cs tot l (.ret [.ag zLv,iv e]) l:=by
 refine j00 Tryz.func86 rfl rfl rfl ?_
 repeat' ((conv=>whnf);first|apply gN|refine gB ?_|apply gO|refine j03 rfl rfl ?_)
 all_goals (try (conv=>whnf))
 all_goals first|exact ⟨rfl,rfl⟩|(exfalso; omega)|contradiction
theorem j3Z (E:Nv) (cs:List PV) (hE:NvP E (.cp cs)) (tot:Int) (ht:tot ≤ 1048576) (n:Nat) (x:Tm) (v:PV) (h:TmP x v) (l:Int) (r:Except Int Lv) (l':Int) (h0:0 ≤ l) (h1:l ≤ tot) (hx:levB E n x l=some (r,l')):IrL 86 [xI,v,iv 0] cs tot l r l':=by
 have hr:=j6h cs tot l
 have hv:=h
 obtain ⟨k1,n1,s1,l1,t1,b1,z1,x1,c1,y1,ys1,-,rfl,-⟩:=h.open
 unfold levB at hx
 rcases j0d hx with ⟨e,q1,rfl⟩|⟨s,la,q1,q2⟩
 ·have he:¬ e=0:=fun e0=>by
   subst e0
   exact (j1E (E:=E) n x).nz _ _ q1
  obtain ⟨-,hf⟩:=j6y E cs hE tot ht n x _ hv l _ l' h0 h1 q1
  simp only [errV] at hf
  refine ⟨he,?_⟩
  refine j00 Tryz.func86 rfl rfl rfl ?_
  repeat' ((conv=>whnf);first|apply gF|apply gN|refine gB ?_|apply gO|refine j03 rfl rfl ?_|refine j02 hr rfl rfl rfl rfl rfl rfl rfl ?_|refine j02 hf rfl rfl rfl rfl rfl rfl rfl ?_|apply gK)
  all_goals (try (conv=>whnf))
  all_goals first|exact ⟨rfl,rfl⟩|(exfalso; omega)|contradiction
 obtain ⟨hs,hf⟩:=j6y E cs hE tot ht n x _ hv l _ la h0 h1 q1
 obtain ⟨hs1,hs2,hsw⟩:=hs s rfl
 simp only [errV] at hf
 unfold TmW at hsw
 generalize encT s=ws at *
 obtain ⟨k3,n3,s3,l3,t3,b3,z3,x3,c3,y3,ys3,e3,rfl,hz3,hx3,-⟩:=hsw.open
 subst e3
 have ek:(Tm.mk k3 n3 s3 l3 t3).kind=k3:=rfl
 rw [ek] at q2
 by_cases hk3:k3=2
 ·rw [decide_eq_true hk3] at q2
  cases q2
  have hln:l3.length=1:=by
   have:=(j0q hs1).2.2.2.1 (by omega)
   subst hk3
   have e:j0H 2=1:=rfl
   omega
  obtain ⟨vl,hvl,hl⟩:=hx3.at (show l3[0]? = some (l3.getD 0 (.mk 0 0 [])) by rw [List.getD_eq_getElem?_getD,List.getElem?_eq_getElem (by omega)]; rfl)
  refine ⟨vl,hl,?_⟩
  obtain ⟨k4,n4,l4,b4,z4,x4,-,rfl,-⟩:=hl.open
  subst hk3
  refine j00 Tryz.func86 rfl rfl rfl ?_
  repeat' ((conv=>whnf);first|apply gF|apply gO|apply gQ|refine j03 rfl rfl ?_|refine j02 hr rfl rfl rfl rfl rfl rfl rfl ?_|refine j02 hf rfl rfl rfl rfl rfl rfl rfl ?_|refine VIdx.mk _ hvl ?_|refine VOk.mk (j07 rfl hz3) ?_|apply gK)
  all_goals (try (conv=>whnf))
  all_goals first|exact ⟨rfl,rfl⟩|(exfalso; omega)|contradiction
 ·rw [decide_eq_false hk3] at q2
  cases q2
  refine ⟨by omega,?_⟩
  refine j00 Tryz.func86 rfl rfl rfl ?_
  repeat' ((conv=>whnf);first|apply gF|apply gN|refine gB ?_|apply gO|refine j03 rfl rfl ?_|refine j02 hr rfl rfl rfl rfl rfl rfl rfl ?_|refine j02 hf rfl rfl rfl rfl rfl rfl rfl ?_|apply gK)
  all_goals (try (conv=>whnf))
  all_goals first|exact ⟨rfl,rfl⟩|(exfalso; omega)|contradiction
open Go Go.Am
section
open Go.Gw Go.ChangeShapes Go.WideShapes Go.ChangeAt Go.RowKit
variable {H:Type} {enc:TypeId × Value→H} {P:Program} {W:World}
theorem TmsP.of:∀ {zs:List (Tm × List PV)},(∀ (i:Nat) (z:Tm × List PV),zs[i]? = some z→TmP z.1 (.ag z.2))→TmsP (zs.map (·.1)) (zs.map fun z=>.ag z.2)
 |[],_=>by simp only [List.map_nil,TmsP]
 |z :: r,h=>by
  simp only [List.map_cons,TmsP]
  exact ⟨_,_,rfl,h 0 z rfl,TmsP.of fun i z' hz=>h (i + 1) z' (by simpa using hz)⟩
end
open Go Go.ChangeShapes Go.WideShapes Go.ChangeAt Go.RowKit
set_option linter.unusedVariables false
theorem jq8:ownKnob Tryz.prog.godebug=none:=by kernel_rfl
theorem jp0:laidOutB Tryz.prog=true:=by kernel_rfl
theorem jkl:Tryz.prog.readableRec 3=true∧3 < Tryz.prog.types.size:=⟨by kernel_rfl,of_decide_eq_true (by kernel_rfl)⟩
theorem jlK : "*errors.errorString" = "*" ++ "errors.errorString" := rfl
theorem jnU (u:TypeId) (h:Tryz.prog.typeName? 3 u=some "*errors.errorString"):u=312 :=
 typeName_ptr_named (nm := "errors.errorString") (by rw [← jlK]; kernel_rfl) (by kernel_rfl) (by decide) u (by rw [← jlK]; exact h)
theorem j6a {W:World} {n:String} {g:Nat} {cs:Array Value} (hg:Tryz.prog.globalNamed n=some g) (h:W.var? Tryz.prog n=some cs):∃ T fr,W.heap[g]? = some (.cells cs T fr):=by
 unfold World.var? at h
 rw [hg,Option.bind_some] at h
 split at h
 ·rename_i c T fr e
  cases h
  exact ⟨T,fr,e⟩
 ·cases h
theorem jkt {W:World} (hsh:W.ShapedOpen Tryz.prog):∃ cs T fr,(∃ m,cs = #[.int .i64 m])∧W.heap[1]? = some (.cells cs T fr):=by
 have hg:1 < Tryz.prog.globals.size:=of_decide_eq_true (by kernel_rfl)
 have h0:((begin Tryz.prog (fun _ _=>0) default).world.heap[1]?).bind Obj.row? = some (#[.int .i64 0],3):=by kernel_rfl
 obtain ⟨m,hm⟩:=cell_of_shapedOpen_int hsh hg h0 rfl (by kernel_rfl) (by kernel_rfl) Tryz.underlying3
 obtain ⟨cs,hh,hs,hr⟩:=hsh.1 _ _ _ hg h0
 refine ⟨cs,_,_,⟨m,?_⟩,hh⟩
 have h1:cs.size=1:=hs
 simp only [World.cell?,hh] at hm
 obtain ⟨l⟩:=cs
 match l,h1 with
 |[x],_ =>
  simp at hm
  rw [hm]
theorem base_of {W:World} (h:laidMetH Tryz.prog Rows.convIMaxRow.laid W) (hsh:W.ShapedOpen Tryz.prog):∀ b p,Hb.base b=some p→∃ cs T fr,p cs∧W.heap[b]? = some (.cells cs T fr):=by
 rw [MakeChecks.laidMetH_plain _ _ _ (by kernel_rfl)] at h
 have h2:laidMet Tryz.prog (("internal/strconv.uint64pow10",Lib.tabData .u64 Lib.pow10Tab) :: Rows.convIMaxRow.laid.drop 3) W:=laidMet.tail (laidMet.tail h)
 have h4:laidMet Tryz.prog (("strconv.ErrRange",Rows.laid_strconv_ErrRange) :: Rows.convIMaxRow.laid.drop 5) W:=laidMet.tail (laidMet.tail h2)
 have h5:laidMet Tryz.prog (("strconv.ErrSyntax",Rows.laid_strconv_ErrSyntax) :: Rows.convIMaxRow.laid.drop 6) W:=laidMet.tail h4
 have ht:=Lib.tabIs_of_head (g:=0) (by kernel_rfl) (by kernel_rfl) Tryz.underlying285 Tryz.underlying256 (by kernel_rfl) (by kernel_rfl) h2
 obtain ⟨a4,s4,hv4,-⟩:=laid_sentinel (g:=3) h4 (by kernel_rfl) (by kernel_rfl) Tryz.underlying204 jnU Tryz.underlying312 Tryz.underlying314 rfl rfl Tryz.underlying9 (by kernel_rfl) (by kernel_rfl)
 obtain ⟨a5,s5,hv5,-⟩:=laid_sentinel (g:=2) h5 (by kernel_rfl) (by kernel_rfl) Tryz.underlying204 jnU Tryz.underlying312 Tryz.underlying314 rfl rfl Tryz.underlying9 (by kernel_rfl) (by kernel_rfl)
 intro b p hb
 unfold Hb.base at hb
 split at hb
 ·rename_i e
  subst e
  cases hb
  obtain ⟨T,fr,e⟩:=j6a (by kernel_rfl) ht
  exact ⟨_,T,fr,rfl,e⟩
 ·split at hb
  ·rename_i e
   subst e
   cases hb
   exact jkt hsh
  ·split at hb
   ·rename_i e
    subst e
    cases hb
    obtain ⟨T,fr,e⟩:=j6a (by kernel_rfl) hv5
    exact ⟨_,T,fr,⟨_,_,rfl⟩,e⟩
   ·split at hb
    ·rename_i e
     subst e
     cases hb
     obtain ⟨T,fr,e⟩:=j6a (by kernel_rfl) hv4
     exact ⟨_,T,fr,⟨_,_,rfl⟩,e⟩
    ·cases hb
section
variable {H:Type} {enc:TypeId × Value→H} {W:World} {r:Reach} {b0:Nat} {v:Value} {d:DataW H} {ps:List MemPlace}
theorem jjM (hv:Value.okWide Tryz.prog W r b0 3 v) (h:DataW.Trod enc Tryz.prog W 0 (fun _=>true) true 3 v d ps):∃ n,Am.R (memB W) Am.noPh (iv n) v∧Gw.i64 n:=by
 obtain ⟨a0,rfl,rfl,rfl,w0⟩:=open_int Tryz.underlying3 hv h
 refine ⟨a0,.sc rfl,?_⟩
 simp [Lit.wf,IntKind.min,IntKind.max,IntKind.signed,IntKind.bits] at w0
 unfold Gw.i64
 omega
end
open Go Go.ChangeShapes Go.WideShapes Go.ChangeAt Go.RowKit
set_option linter.unusedVariables false
section
open Go.Gw Go.Am
variable {H:Type} {enc:TypeId × Value→H} {P:Program} {W:World}
end
section
variable {H:Type} {enc:TypeId × Value→H} {W:World} {r:Reach} {b0:Nat} {v:Value} {d:DataW H} {ps:List MemPlace}
end
theorem jbU {H:Type} {enc:TypeId × Value→H} {a:Assume} {C:Checked} {os:Os} {f:FuncId} {fn:Func} {s:ChangeSpec} {conds:List PathCond} {apart fresh handsOn again:Bool} {X:World→Array Value→Prop}
  (hX:∀ (w w':World) (args:Array Value),w.heap=w'.heap→X w args→X w' args)
  (own:ownKnob C.prog.godebug=none) (started:os.Started) (noInit:C.prog.inits.idxOf? f=none) (hfn:C.prog.funcs[f]? = some fn)
  (witness:∃ (w:World) (tape:Tape) (i:Input),w.os=os∧(w.forCall tape i).Shaped C.prog∧i.vars=[]∧Input.okWide C.prog (w.forCall tape i) .any w.heap.size f i ∧
   ((s.pre enc C.prog fn conds apart (w.forCall tape i).memory i.args∧X (w.forCall tape i).memory i.args)∧sizedMet enc C.prog fn (OpenSpec.ofChange s) apart (w.forCall tape i).memory i.args)∧a.holds C.prog (lone (Frame.enter C.prog f i.args .normal) [] (w.forCall tape i)))
  (contract:∀ (W:World) (base:Nat) (args:Array Value) (ds gs:List (DataW H)) (before:List MemPlace),
   (∀ (j:Nat) t v,fn.params[j]? = some t→args[j]? = some v→Value.okWide C.prog W .any base t v) →
   DataW.Whole enc C.prog fn.params.toList s.vars apart W args.toList ds gs before →
   conds.all (PathCond.test C.prog ⟨fn.params.toList,ds,s.plain.varTypes C.prog,gs⟩)=true →
   (DataW.weightsEach C.prog (fn.params.toList ++ s.plain.varTypes C.prog) (ds ++ gs)).all (· ≤ reachBytes)=true→X W args→W.ShapedOpen C.prog →
   a.holds C.prog (lone (Frame.enter C.prog f args .normal) [] W) →
   Calls C.prog f args W fun e W'=>∃ v,e = .returned v∧s.post enc C.prog fn apart fresh handsOn again W args v W') :
  ReturnsInHanded a C os f .any (fun w args=>(s.pre enc C.prog fn conds apart w args∧X w args)∧sizedMet enc C.prog fn (OpenSpec.ofChange s) apart w args) (s.post enc C.prog fn apart fresh handsOn again):=by
 refine returnsInHanded_of_calls own started noInit witness ?_
 intro w tape i _ hsh _ hok hpre hholds
 obtain ⟨_,_,_,fn',hfn',_,_,_,_,hval⟩:=hok
 have e:fn'=fn:=Option.some.inj (hfn'.symm.trans hfn)
 subst e
 obtain ⟨⟨⟨ds,gs,before,hw,hc⟩,hx⟩,hz⟩:=hpre
 have hw':=DataW.Whole.of_heap (w':=w.forCall tape i) (by rfl) hw
 refine (contract (w.forCall tape i) w.heap.size i.args ds gs before hval hw' hc (hz.weights hw) (hX _ _ _ (by rfl) hx) hsh hholds).mono fun e W' ⟨v,he,hp⟩=>?_
 subst he
 exact ChangeSpec.post_blind hp
end Go.Proofs.YtljnahbgfmflaaaGreatDoor

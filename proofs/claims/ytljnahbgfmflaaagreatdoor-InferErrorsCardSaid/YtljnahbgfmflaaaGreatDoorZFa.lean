/-
  Equality of structs of whole numbers and rows of them, in the plain machine. Plain lemmas, no statement of the seat.
-/
import Derived.Test.YtljnahbgfmflaaaGreatDoorZPs
import Derived.Test.YtljnahbgfmflaaaGreatDoorZSh
import Derived.Test.YtljnahbgfmflaaaGreatDoorZTf
set_option linter.unusedVariables false
set_option maxHeartbeats 1000000
set_option maxRecDepth 100000
set_option linter.unusedSimpArgs false
set_option linter.unnecessarySimpa false
namespace Go.Proofs.YtljnahbgfmflaaaGreatDoor
open Go Go.Am Go.Gw
theorem qb {P:Program} {α β:Type} {f:α→Sem β} {s:Sem α} {a:α} (h:qrun P s=some a):qrun P (s >>= f)=qrun P (f a):=j2Y h
theorem joo {P:Program}:qrun P program=some P:=rfl
theorem jpY {P:Program} {T:TypeId} {i:TypeInfo} (h:P.info? T=some i):qrun P (sizeOf T)=some i.size:=by
 unfold sizeOf typeInfo
 simp [bind,Sem.bind,qrun,program,h]
 rfl
theorem joe {P:Program} {T:TypeId} {k:IntKind} (h:P.underlying T=some (.int k)):qrun P (isAgg T)=some false:=by
 unfold isAgg
 rw [qb (j1e h)]
 rfl
theorem jmV {P:Program} {T e:TypeId} {n:Nat} (h:P.underlying T=some (.array n e)):qrun P (isAgg T)=some true:=by
 unfold isAgg
 rw [qb (j1e h)]
 rfl
theorem j8K {P:Program} {T:TypeId} {k:IntKind} {cs:Array Value} {q:Nat} {v:Value} (h:P.underlying T=some (.int k)) (hv:cs[q]? = some v):qrun P (part T cs q)=some v:=by
 unfold part
 rw [qb (joe h)]
 simp [hv,qrun,pure]
theorem jeE {P:Program} {T e:TypeId} {n:Nat} {i:TypeInfo} {cs:Array Value} {q:Nat} (h:P.underlying T=some (.array n e)) (hi:P.info? T=some i):qrun P (part T cs q)=some (.agg (cs.extract q (q + i.size))):=by
 unfold part
 rw [qb (jmV h)]
 simp only [if_true]
 rw [qb (jpY hi)]
 rfl
theorem jln {P:Program} {T:TypeId} {k k':IntKind} {d:Nat} {a b:Int} (h:P.underlying T=some (.int k')):qrun P (Op.equalIn (d + 1) T (.int k a) (.int k b))=some (a == b):=by
 simp only [Op.equalIn]
 rw [qb (j1e h)]
 simp [qrun,pure]
theorem jmP {P:Program} {T e:TypeId} {k:IntKind} {i:TypeInfo} {d:Nat} {a0 a1 a2 a3 b0 b1 b2 b3:Int} (h:P.underlying T=some (.array 4 e)) (he:P.underlying e=some (.int k)) (hi:P.info? e=some i) (h1:i.size=1) :
  qrun P (Op.equalIn (d + 2) T (.agg #[.int .i64 a0,.int .i64 a1,.int .i64 a2,.int .i64 a3]) (.agg #[.int .i64 b0,.int .i64 b1,.int .i64 b2,.int .i64 b3]))=some (decide (a0=b0) && (decide (a1=b1) && (decide (a2=b2) && decide (a3=b3)))):=by
 rw [Op.equalIn]
 rw [qb (j1e h)]
 simp only [Std.Legacy.Range.forIn_eq_forIn_range',Std.Legacy.Range.size,Nat.sub_zero,Nat.add_one_sub_one,Nat.div_one]
 rw [qb (jpY hi),h1]
 have hr:List.range' 0 4=[0,1,2,3]:=rfl
 simp only [hr,List.forIn_cons,List.forIn_nil,Nat.mul_one]
 have p:∀ (cs:Array Value) (q:Nat) (v:Value),cs[q]? = some v→qrun P (part e cs q)=some v:=fun cs q v hv=>j8K he hv
 have q:∀ (x y:Int),qrun P (Op.equalIn (d + 1) e (.int .i64 x) (.int .i64 y))=some (x == y):=fun x y=>jln he
 have A0:=p #[.int .i64 a0,.int .i64 a1,.int .i64 a2,.int .i64 a3] 0 (.int .i64 a0) rfl
 have A1:=p #[.int .i64 a0,.int .i64 a1,.int .i64 a2,.int .i64 a3] 1 (.int .i64 a1) rfl
 have A2:=p #[.int .i64 a0,.int .i64 a1,.int .i64 a2,.int .i64 a3] 2 (.int .i64 a2) rfl
 have A3:=p #[.int .i64 a0,.int .i64 a1,.int .i64 a2,.int .i64 a3] 3 (.int .i64 a3) rfl
 have B0:=p #[.int .i64 b0,.int .i64 b1,.int .i64 b2,.int .i64 b3] 0 (.int .i64 b0) rfl
 have B1:=p #[.int .i64 b0,.int .i64 b1,.int .i64 b2,.int .i64 b3] 1 (.int .i64 b1) rfl
 have B2:=p #[.int .i64 b0,.int .i64 b1,.int .i64 b2,.int .i64 b3] 2 (.int .i64 b2) rfl
 have B3:=p #[.int .i64 b0,.int .i64 b1,.int .i64 b2,.int .i64 b3] 3 (.int .i64 b3) rfl
 have hp:∀ {α β:Type} (a:α) (f:α→Sem β),(Pure.pure a >>= f:Sem β)=f a:=fun _ _=>rfl
 simp only [bind_assoc,qb A0,qb B0,qb (q _ _)]
 by_cases k0:a0=b0
 ·subst k0; simp only [beq_self_eq_true,Bool.not_true,Bool.false_eq_true,if_false,hp,bind_assoc,qb A1,qb B1,qb (q _ _),decide_true,Bool.true_and]
  by_cases k1:a1=b1
  ·subst k1; simp only [beq_self_eq_true,Bool.not_true,Bool.false_eq_true,if_false,hp,bind_assoc,qb A2,qb B2,qb (q _ _),decide_true,Bool.true_and]
   by_cases k2:a2=b2
   ·subst k2; simp only [beq_self_eq_true,Bool.not_true,Bool.false_eq_true,if_false,hp,bind_assoc,qb A3,qb B3,qb (q _ _),decide_true,Bool.true_and]
    by_cases k3:a3=b3
    ·subst k3; simp only [beq_self_eq_true,Bool.not_true,Bool.false_eq_true,if_false,hp,decide_true]
     rfl
    ·simp only [beq_eq_false_iff_ne.mpr k3,Bool.not_false,if_true,hp,decide_eq_false k3]
     rfl
   ·simp only [beq_eq_false_iff_ne.mpr k2,Bool.not_false,if_true,hp,decide_eq_false k2,Bool.false_and]
    rfl
  ·simp only [beq_eq_false_iff_ne.mpr k1,Bool.not_false,if_true,hp,decide_eq_false k1,Bool.false_and]
   rfl
 ·simp only [beq_eq_false_iff_ne.mpr k0,Bool.not_false,if_true,hp,decide_eq_false k0,Bool.false_and]
  rfl
theorem jk9:C1.P.underlying 118=some (.struct (C1.P.fieldsOf 118)):=by kernel_rfl
theorem jeu:(C1.P.fieldsOf 118).toList.map (fun f=>(f.name,f.type,f.offset))=[("num",3,0),("off",87,1)]:=by kernel_rfl
theorem jiR:C1.P.stoodInHeld 118=false:=by kernel_rfl
theorem jfW:C1.P.eqGuardType C1.P.depth 118=false:=by kernel_rfl
theorem jm1:∃ i,C1.P.info? 3=some i∧i.size=1:=by
 have h:(C1.P.info? 3).map (·.size)=some 1:=by kernel_rfl
 cases e:C1.P.info? 3 with
 |none=>rw [e] at h; cases h
 |some i=>rw [e] at h; exact ⟨i,rfl,by simpa using h⟩
theorem jm5:∃ i,C1.P.info? 87=some i∧i.size=4:=by
 have h:(C1.P.info? 87).map (·.size)=some 4:=by kernel_rfl
 cases e:C1.P.info? 87 with
 |none=>rw [e] at h; cases h
 |some i=>rw [e] at h; exact ⟨i,rfl,by simpa using h⟩
theorem j8B:C1.P.underlying 3=some (.int .i64):=by kernel_rfl
theorem jck:C1.P.underlying 87=some (.array 4 3):=by kernel_rfl
def fiv (a0 a1 a2 a3 a4:Int):Array Value:=#[.int .i64 a0,.int .i64 a1,.int .i64 a2,.int .i64 a3,.int .i64 a4]
theorem jnk {d:Nat} {a0 a1 a2 a3 a4 b0 b1 b2 b3 b4:Int} :
  qrun C1.P (Op.equalIn (d + 3) 118 (.agg (fiv a0 a1 a2 a3 a4)) (.agg (fiv b0 b1 b2 b3 b4)))=some (decide (a0=b0) && (decide (a1=b1) && (decide (a2=b2) && (decide (a3=b3) && decide (a4=b4))))):=by
 obtain ⟨i,hi,hs⟩:=jm1
 obtain ⟨j,hj,hs4⟩:=jm5
 obtain ⟨f1,f2,hfl,h1,h2,h3,h4,h5,h6⟩:∃ f1 f2:Field,(C1.P.fieldsOf 118).toList=[f1,f2]∧f1.name = "num"∧f1.type=3∧f1.offset=0∧f2.name = "off"∧f2.type=87∧f2.offset=1:=by
  have h:=jeu
  match hq:(C1.P.fieldsOf 118).toList with
  |[]=>rw [hq] at h; simp at h
  |[_]=>rw [hq] at h; simp at h
  |[f1,f2]=>rw [hq] at h; simp at h; exact ⟨f1,f2,rfl,h.1.1,h.1.2.1,h.1.2.2,h.2.1,h.2.2.1,h.2.2.2⟩
  |_ :: _ :: _ :: _=>rw [hq] at h; simp at h
 rw [Op.equalIn]
 rw [qb (j1e jk9)]
 have hp:∀ {α β:Type} (a:α) (f:α→Sem β),(Pure.pure a >>= f:Sem β)=f a:=fun _ _=>rfl
 simp only []
 rw [qb joo]
 simp only [jiR,Bool.false_eq_true,if_false]
 rw [← Array.forIn_toList,hfl]
 simp only [List.forIn_cons,List.forIn_nil,h1,h2,h3,h4,h5,h6,ne_eq,show ¬ ("num" = "_") from by decide,show ¬ ("off" = "_") from by decide,not_false_eq_true,if_true,bind_assoc]
 have A0:qrun C1.P (part 3 (fiv a0 a1 a2 a3 a4) 0)=some (.int .i64 a0):=j8K j8B rfl
 have B0:qrun C1.P (part 3 (fiv b0 b1 b2 b3 b4) 0)=some (.int .i64 b0):=j8K j8B rfl
 have A1:qrun C1.P (part 87 (fiv a0 a1 a2 a3 a4) 1)=some (.agg #[.int .i64 a1,.int .i64 a2,.int .i64 a3,.int .i64 a4]):=by rw [jeE jck hj,hs4]; rfl
 have B1:qrun C1.P (part 87 (fiv b0 b1 b2 b3 b4) 1)=some (.agg #[.int .i64 b1,.int .i64 b2,.int .i64 b3,.int .i64 b4]):=by rw [jeE jck hj,hs4]; rfl
 rw [qb A0,qb B0,qb (jln j8B)]
 by_cases k0:a0=b0
 ·subst k0
  simp only [beq_self_eq_true,Bool.not_true,Bool.false_eq_true,if_false,hp,bind_assoc,decide_true,Bool.true_and]
  rw [qb A1,qb B1,qb (jmP jck j8B hi hs)]
  cases (decide (a1=b1) && (decide (a2=b2) && (decide (a3=b3) && decide (a4=b4)))) <;> rfl
 ·simp only [beq_eq_false_iff_ne.mpr k0,Bool.not_false,if_true,hp,decide_eq_false k0,Bool.false_and]
  rfl
theorem jqJ {x y:Operand} {a0 a1 a2 a3 a4 b0 b1 b2 b3 b4:Int} :
  j0l C1.P .eql 118 x y (.ag [iv a0,iv a1,iv a2,iv a3,iv a4]) (.ag [iv b0,iv b1,iv b2,iv b3,iv b4])=some (bv (decide (a0=b0) && (decide (a1=b1) && (decide (a2=b2) && (decide (a3=b3) && decide (a4=b4)))))):=by
 show (qrun C1.P (do eqGuard .eql 118 x y (.agg (fiv a0 a1 a2 a3 a4)) (.agg (fiv b0 b1 b2 b3 b4)); binOp .eql 118 (.agg (fiv a0 a1 a2 a3 a4)) (.agg (fiv b0 b1 b2 b3 b4)))).bind j4M=_
 have h1:qrun C1.P (eqGuard .eql 118 x y (.agg (fiv a0 a1 a2 a3 a4)) (.agg (fiv b0 b1 b2 b3 b4)))=some ():=by
  simp only [eqGuard,Bool.not_true,Bool.false_eq_true,if_false]
  rw [qb joo,qb joo]
  simp [jfW,qrun,pure]
 rw [qb h1]
 have h2:qrun C1.P (binOp .eql 118 (.agg (fiv a0 a1 a2 a3 a4)) (.agg (fiv b0 b1 b2 b3 b4)))=some (.bool (decide (a0=b0) && (decide (a1=b1) && (decide (a2=b2) && (decide (a3=b3) && decide (a4=b4)))))):=by
  simp only [binOp,Op.equal,Op.maxDepth]
  rw [qb (jnk (d:=9997))]
  rfl
 rw [h2]
 rfl
open Go Go.Am Go.Gw
def fmC (f:Fm):List PV:=[iv f.num,iv (f.off 0),iv (f.off 1),iv (f.off 2),iv (f.off 3)]
def fmV (f:Fm):PV:=.ag (fmC f)
theorem j3q (n:Int):Pf C1 132 [iv n] [fmV (j2b n)]:=by
 refine j00 Tryz.func132 rfl rfl rfl ?_
 repeat' ((conv=>whnf);first|refine VOk.mk rfl ?_)
 all_goals (try (conv=>whnf))
 refine j09 (G:=Nat) (fun i=>[(7,iv i)]) (fun i=>[.box 118 [iv 0,iv 0,iv 0,iv 0,iv 0],.box 118 [iv n,iv (if 0 < i then -1 else 0),iv (if 1 < i then -1 else 0),iv (if 2 < i then -1 else 0),iv (if 3 < i then -1 else 0)]]) (fun i=>i ≤ 4) (fun i=>4 - i) 0 (by omega) rfl rfl ?_
 intro i hi
 match i,hi with
 |0,_ =>
  repeat' ((conv=>whnf);first|apply gT|apply gO|apply gQ|refine VArith.fits (by unfold i64; omega) ?_)
  all_goals (try (conv=>whnf))
  exact VAgain.mk _ rfl _ (j0h rfl rfl rfl) ⟨1,by omega,by omega,rfl⟩
 |1,_ =>
  repeat' ((conv=>whnf);first|apply gT|apply gO|apply gQ|refine VArith.fits (by unfold i64; omega) ?_)
  all_goals (try (conv=>whnf))
  exact VAgain.mk _ rfl _ (j0h rfl rfl rfl) ⟨2,by omega,by omega,rfl⟩
 |2,_ =>
  repeat' ((conv=>whnf);first|apply gT|apply gO|apply gQ|refine VArith.fits (by unfold i64; omega) ?_)
  all_goals (try (conv=>whnf))
  exact VAgain.mk _ rfl _ (j0h rfl rfl rfl) ⟨3,by omega,by omega,rfl⟩
 |3,_ =>
  repeat' ((conv=>whnf);first|apply gT|apply gO|apply gQ|refine VArith.fits (by unfold i64; omega) ?_)
  all_goals (try (conv=>whnf))
  exact VAgain.mk _ rfl _ (j0h rfl rfl rfl) ⟨4,by omega,by omega,rfl⟩
 |4,_ =>
  repeat' ((conv=>whnf);first|apply gF|apply gO|refine j04 rfl ?_)
  all_goals (try (conv=>whnf))
  rfl
 |n + 5,h=>exact absurd h (by omega)
theorem jlZ (f:Fm):Pf C1 134 [fmV f] [bv (jow f)]:=by
 have hc:=j3q 0
 refine j00 Tryz.func134 rfl rfl rfl ?_
 repeat' ((conv=>whnf);first|apply gP|refine j05 hc (fun _=>?_)|apply gK)
 all_goals (try (conv=>whnf))
 refine VRes.mk _ (jqJ (a0:=f.num) (a1:=f.off 0) (a2:=f.off 1) (a3:=f.off 2) (a4:=f.off 3) (b0:=0) (b1:=-1) (b2:=-1) (b3:=-1) (b4:=-1)) ?_
 repeat' ((conv=>whnf);first|apply gO|refine j04 rfl ?_)
 all_goals (try (conv=>whnf))
 rfl
theorem j4t {x:Int} (h:¬ x = -1):rise x=x + 1:=if_neg h
theorem j4x {x:Int} (h:x = -1):rise x=x:=by simp [rise,h]
theorem jjE (f:Fm) (hf:f.ok 1000000):Pf C1 133 [fmV f] [fmV (j9Q f)]:=by
 obtain ⟨⟨h0,h1⟩,h2⟩:=hf
 have k0:=h2 0
 have k1:=h2 1
 have k2:=h2 2
 have k3:=h2 3
 refine j00 Tryz.func133 rfl rfl rfl ?_
 repeat' ((conv=>whnf);first|apply gN|apply gE<;>intro h|apply gO|refine VArith.fits (by unfold i64; omega) ?_)
 all_goals (try (conv=>whnf))
 ·refine j09 (G:=Nat) (fun i=>[(14,iv i)]) (fun i=>[.box 118 [iv f.num,iv (if 0 < i then rise (f.off 0) else f.off 0),iv (if 1 < i then rise (f.off 1) else f.off 1),iv (if 2 < i then rise (f.off 2) else f.off 2),iv (if 3 < i then rise (f.off 3) else f.off 3)],.box 118 [iv 0,iv 0,iv 0,iv 0,iv 0]]) (fun i=>i ≤ 4) (fun i=>4 - i) 0 (by omega) rfl rfl ?_
  intro i hi
  match i,hi with
  |0,_ =>
   repeat' ((conv=>whnf);first|refine VIf.tt rfl ?_)
   all_goals (try (conv=>whnf))
   refine VRes.mk (iv (f.off 0)) rfl ?_
   repeat' ((conv=>whnf);first|apply gN|apply gE<;>intro h|apply gO|apply gQ|refine VArith.fits (by unfold i64; omega) ?_)
   all_goals (try (conv=>whnf))
   ·exact VAgain.mk _ rfl _ (j0h rfl rfl rfl) ⟨1,by omega,by omega,by rw [j4x (x:=f.off 0) (by assumption)]; rfl⟩
   ·exact VAgain.mk _ rfl _ (j0h rfl rfl rfl) ⟨1,by omega,by omega,by rw [j4t (x:=f.off 0) (by assumption)]; rfl⟩
  |1,_ =>
   repeat' ((conv=>whnf);first|refine VIf.tt rfl ?_)
   all_goals (try (conv=>whnf))
   refine VRes.mk (iv (f.off 1)) rfl ?_
   repeat' ((conv=>whnf);first|apply gN|apply gE<;>intro h|apply gO|apply gQ|refine VArith.fits (by unfold i64; omega) ?_)
   all_goals (try (conv=>whnf))
   ·exact VAgain.mk _ rfl _ (j0h rfl rfl rfl) ⟨2,by omega,by omega,by rw [j4x (x:=f.off 1) (by assumption)]; rfl⟩
   ·exact VAgain.mk _ rfl _ (j0h rfl rfl rfl) ⟨2,by omega,by omega,by rw [j4t (x:=f.off 1) (by assumption)]; rfl⟩
  |2,_ =>
   repeat' ((conv=>whnf);first|refine VIf.tt rfl ?_)
   all_goals (try (conv=>whnf))
   refine VRes.mk (iv (f.off 2)) rfl ?_
   repeat' ((conv=>whnf);first|apply gN|apply gE<;>intro h|apply gO|apply gQ|refine VArith.fits (by unfold i64; omega) ?_)
   all_goals (try (conv=>whnf))
   ·exact VAgain.mk _ rfl _ (j0h rfl rfl rfl) ⟨3,by omega,by omega,by rw [j4x (x:=f.off 2) (by assumption)]; rfl⟩
   ·exact VAgain.mk _ rfl _ (j0h rfl rfl rfl) ⟨3,by omega,by omega,by rw [j4t (x:=f.off 2) (by assumption)]; rfl⟩
  |3,_ =>
   repeat' ((conv=>whnf);first|refine VIf.tt rfl ?_)
   all_goals (try (conv=>whnf))
   refine VRes.mk (iv (f.off 3)) rfl ?_
   repeat' ((conv=>whnf);first|apply gN|apply gE<;>intro h|apply gO|apply gQ|refine VArith.fits (by unfold i64; omega) ?_)
   all_goals (try (conv=>whnf))
   ·exact VAgain.mk _ rfl _ (j0h rfl rfl rfl) ⟨4,by omega,by omega,by rw [j4x (x:=f.off 3) (by assumption)]; rfl⟩
   ·exact VAgain.mk _ rfl _ (j0h rfl rfl rfl) ⟨4,by omega,by omega,by rw [j4t (x:=f.off 3) (by assumption)]; rfl⟩
  |4,_ =>
   repeat' ((conv=>whnf);first|apply gF|apply gO|refine j04 rfl ?_)
   all_goals (try (conv=>whnf))
   unfold j9Q
   rw [j4x (x:=f.num) (by assumption)]
   rfl
  |n + 5,h=>exact absurd h (by omega)
 ·refine j09 (G:=Nat) (fun i=>[(14,iv i)]) (fun i=>[.box 118 [iv (f.num + 1),iv (if 0 < i then rise (f.off 0) else f.off 0),iv (if 1 < i then rise (f.off 1) else f.off 1),iv (if 2 < i then rise (f.off 2) else f.off 2),iv (if 3 < i then rise (f.off 3) else f.off 3)],.box 118 [iv 0,iv 0,iv 0,iv 0,iv 0]]) (fun i=>i ≤ 4) (fun i=>4 - i) 0 (by omega) rfl rfl ?_
  intro i hi
  match i,hi with
  |0,_ =>
   repeat' ((conv=>whnf);first|refine VIf.tt rfl ?_)
   all_goals (try (conv=>whnf))
   refine VRes.mk (iv (f.off 0)) rfl ?_
   repeat' ((conv=>whnf);first|apply gN|apply gE<;>intro h|apply gO|apply gQ|refine VArith.fits (by unfold i64; omega) ?_)
   all_goals (try (conv=>whnf))
   ·exact VAgain.mk _ rfl _ (j0h rfl rfl rfl) ⟨1,by omega,by omega,by rw [j4x (x:=f.off 0) (by assumption)]; rfl⟩
   ·exact VAgain.mk _ rfl _ (j0h rfl rfl rfl) ⟨1,by omega,by omega,by rw [j4t (x:=f.off 0) (by assumption)]; rfl⟩
  |1,_ =>
   repeat' ((conv=>whnf);first|refine VIf.tt rfl ?_)
   all_goals (try (conv=>whnf))
   refine VRes.mk (iv (f.off 1)) rfl ?_
   repeat' ((conv=>whnf);first|apply gN|apply gE<;>intro h|apply gO|apply gQ|refine VArith.fits (by unfold i64; omega) ?_)
   all_goals (try (conv=>whnf))
   ·exact VAgain.mk _ rfl _ (j0h rfl rfl rfl) ⟨2,by omega,by omega,by rw [j4x (x:=f.off 1) (by assumption)]; rfl⟩
   ·exact VAgain.mk _ rfl _ (j0h rfl rfl rfl) ⟨2,by omega,by omega,by rw [j4t (x:=f.off 1) (by assumption)]; rfl⟩
  |2,_ =>
   repeat' ((conv=>whnf);first|refine VIf.tt rfl ?_)
   all_goals (try (conv=>whnf))
   refine VRes.mk (iv (f.off 2)) rfl ?_
   repeat' ((conv=>whnf);first|apply gN|apply gE<;>intro h|apply gO|apply gQ|refine VArith.fits (by unfold i64; omega) ?_)
   all_goals (try (conv=>whnf))
   ·exact VAgain.mk _ rfl _ (j0h rfl rfl rfl) ⟨3,by omega,by omega,by rw [j4x (x:=f.off 2) (by assumption)]; rfl⟩
   ·exact VAgain.mk _ rfl _ (j0h rfl rfl rfl) ⟨3,by omega,by omega,by rw [j4t (x:=f.off 2) (by assumption)]; rfl⟩
  |3,_ =>
   repeat' ((conv=>whnf);first|refine VIf.tt rfl ?_)
   all_goals (try (conv=>whnf))
   refine VRes.mk (iv (f.off 3)) rfl ?_
   repeat' ((conv=>whnf);first|apply gN|apply gE<;>intro h|apply gO|apply gQ|refine VArith.fits (by unfold i64; omega) ?_)
   all_goals (try (conv=>whnf))
   ·exact VAgain.mk _ rfl _ (j0h rfl rfl rfl) ⟨4,by omega,by omega,by rw [j4x (x:=f.off 3) (by assumption)]; rfl⟩
   ·exact VAgain.mk _ rfl _ (j0h rfl rfl rfl) ⟨4,by omega,by omega,by rw [j4t (x:=f.off 3) (by assumption)]; rfl⟩
  |4,_ =>
   repeat' ((conv=>whnf);first|apply gF|apply gO|refine j04 rfl ?_)
   all_goals (try (conv=>whnf))
   unfold j9Q
   rw [j4t (x:=f.num) (by assumption)]
   rfl
  |n + 5,h=>exact absurd h (by omega)
def mx (x y:Int):Int:=if y > x then y else x
theorem jnX (x y:Int):mx x y=max x y:=by unfold mx; split <;> omega
theorem jpj (f g:Fm):(jar f g:Fm)=⟨mx f.num g.num,fun j=>mx (f.off j) (g.off j)⟩:=by simp only [jnX]; rfl
theorem jji (f g:Fm):Pf C1 135 [fmV f,fmV g] [fmV (jar f g)]:=by
 rw [jpj]
 refine j00 Tryz.func135 rfl rfl rfl ?_
 repeat' ((conv=>whnf);first|refine VOk.mk rfl ?_)
 all_goals (try (conv=>whnf))
 refine j09 (G:=Nat) (fun i=>[(15,iv i)]) (fun i=>[.box 118 [iv (mx f.num g.num),iv (if 0 < i then mx (f.off 0) (g.off 0) else f.off 0),iv (if 1 < i then mx (f.off 1) (g.off 1) else f.off 1),iv (if 2 < i then mx (f.off 2) (g.off 2) else f.off 2),iv (if 3 < i then mx (f.off 3) (g.off 3) else f.off 3)],.box 118 (fmC g),.box 118 [iv 0,iv 0,iv 0,iv 0,iv 0]]) (fun i=>i ≤ 4) (fun i=>4 - i) 0 (by omega) rfl rfl ?_
 intro i hi
 match i,hi with
 |0,_ =>
  repeat' ((conv=>whnf);first|refine VIf.tt rfl ?_)
  all_goals (try (conv=>whnf))
  refine VRes.mk (iv (g.off 0)) rfl ?_
  repeat' ((conv=>whnf);first|apply gO|apply gQ|refine VArith.fits (by unfold i64; omega) ?_)
  all_goals (try (conv=>whnf))
  exact VAgain.mk _ rfl _ (j0h rfl rfl rfl) ⟨1,by omega,by omega,rfl⟩
 |1,_ =>
  repeat' ((conv=>whnf);first|refine VIf.tt rfl ?_)
  all_goals (try (conv=>whnf))
  refine VRes.mk (iv (g.off 1)) rfl ?_
  repeat' ((conv=>whnf);first|apply gO|apply gQ|refine VArith.fits (by unfold i64; omega) ?_)
  all_goals (try (conv=>whnf))
  exact VAgain.mk _ rfl _ (j0h rfl rfl rfl) ⟨2,by omega,by omega,rfl⟩
 |2,_ =>
  repeat' ((conv=>whnf);first|refine VIf.tt rfl ?_)
  all_goals (try (conv=>whnf))
  refine VRes.mk (iv (g.off 2)) rfl ?_
  repeat' ((conv=>whnf);first|apply gO|apply gQ|refine VArith.fits (by unfold i64; omega) ?_)
  all_goals (try (conv=>whnf))
  exact VAgain.mk _ rfl _ (j0h rfl rfl rfl) ⟨3,by omega,by omega,rfl⟩
 |3,_ =>
  repeat' ((conv=>whnf);first|refine VIf.tt rfl ?_)
  all_goals (try (conv=>whnf))
  refine VRes.mk (iv (g.off 3)) rfl ?_
  repeat' ((conv=>whnf);first|apply gO|apply gQ|refine VArith.fits (by unfold i64; omega) ?_)
  all_goals (try (conv=>whnf))
  exact VAgain.mk _ rfl _ (j0h rfl rfl rfl) ⟨4,by omega,by omega,rfl⟩
 |4,_ =>
  repeat' ((conv=>whnf);first|apply gF|apply gO|refine j04 rfl ?_)
  all_goals (try (conv=>whnf))
  rfl
 |n + 5,h=>exact absurd h (by omega)
def lst (f:Fm):Nat→Int
 |0=>f.num
 |i + 1=>if f.off i = -1 then lst f i else mx (lst f i) (f.off i + 1)
theorem jgF {f:Fm} {i:Nat} (h:f.off i = -1):lst f (i + 1)=lst f i:=by simp [lst,h]
theorem jgY {f:Fm} {i:Nat} (h:¬ f.off i = -1):lst f (i + 1)=mx (lst f i) (f.off i + 1):=by simp [lst,h]
theorem jo1 (f:Fm):∀ i,ja3 f i=lst f i
 |0=>rfl
 |i + 1=>by rw [ja3,lst,jo1 f i,jnX]
theorem jjD (f:Fm) (hf:f.ok 1000000):Pf C1 136 [fmV f] [iv (jlm f)]:=by
 obtain ⟨⟨h0,h1⟩,h2⟩:=hf
 have k0:=h2 0
 have k1:=h2 1
 have k2:=h2 2
 have k3:=h2 3
 rw [jlm,jo1]
 refine j00 Tryz.func136 rfl rfl rfl ?_
 skip
 all_goals (try (conv=>whnf))
 refine j09 (G:=Nat) (fun i=>[(10,iv i),(3,iv (lst f i))]) (fun i=>[.box 118 (fmC f)]) (fun i=>i ≤ 4) (fun i=>4 - i) 0 (by omega) rfl rfl ?_
 intro i hi
 match i,hi with
 |0,_ =>
  repeat' ((conv=>whnf);first|refine VIf.tt rfl ?_)
  all_goals (try (conv=>whnf))
  refine VRes.mk (iv (f.off 0)) rfl ?_
  repeat' ((conv=>whnf);first|apply gN|apply gE<;>intro h|refine VArith.fits (by unfold i64; omega) ?_)
  all_goals (try (conv=>whnf))
  ·exact VAgain.mk _ rfl _ (j0h rfl rfl rfl) ⟨1,by omega,by omega,by rw [jgF (f:=f) (i:=0) (by assumption)]; rfl⟩
  ·exact VAgain.mk _ rfl _ (j0h rfl rfl rfl) ⟨1,by omega,by omega,by rw [jgY (f:=f) (i:=0) (by assumption)]; rfl⟩
 |1,_ =>
  repeat' ((conv=>whnf);first|refine VIf.tt rfl ?_)
  all_goals (try (conv=>whnf))
  refine VRes.mk (iv (f.off 1)) rfl ?_
  repeat' ((conv=>whnf);first|apply gN|apply gE<;>intro h|refine VArith.fits (by unfold i64; omega) ?_)
  all_goals (try (conv=>whnf))
  ·exact VAgain.mk _ rfl _ (j0h rfl rfl rfl) ⟨2,by omega,by omega,by rw [jgF (f:=f) (i:=1) (by assumption)]; rfl⟩
  ·exact VAgain.mk _ rfl _ (j0h rfl rfl rfl) ⟨2,by omega,by omega,by rw [jgY (f:=f) (i:=1) (by assumption)]; rfl⟩
 |2,_ =>
  repeat' ((conv=>whnf);first|refine VIf.tt rfl ?_)
  all_goals (try (conv=>whnf))
  refine VRes.mk (iv (f.off 2)) rfl ?_
  repeat' ((conv=>whnf);first|apply gN|apply gE<;>intro h|refine VArith.fits (by unfold i64; omega) ?_)
  all_goals (try (conv=>whnf))
  ·exact VAgain.mk _ rfl _ (j0h rfl rfl rfl) ⟨3,by omega,by omega,by rw [jgF (f:=f) (i:=2) (by assumption)]; rfl⟩
  ·exact VAgain.mk _ rfl _ (j0h rfl rfl rfl) ⟨3,by omega,by omega,by rw [jgY (f:=f) (i:=2) (by assumption)]; rfl⟩
 |3,_ =>
  repeat' ((conv=>whnf);first|refine VIf.tt rfl ?_)
  all_goals (try (conv=>whnf))
  refine VRes.mk (iv (f.off 3)) rfl ?_
  repeat' ((conv=>whnf);first|apply gN|apply gE<;>intro h|refine VArith.fits (by unfold i64; omega) ?_)
  all_goals (try (conv=>whnf))
  ·exact VAgain.mk _ rfl _ (j0h rfl rfl rfl) ⟨4,by omega,by omega,by rw [jgF (f:=f) (i:=3) (by assumption)]; rfl⟩
  ·exact VAgain.mk _ rfl _ (j0h rfl rfl rfl) ⟨4,by omega,by omega,by rw [jgY (f:=f) (i:=3) (by assumption)]; rfl⟩
 |4,_ =>
  repeat' ((conv=>whnf);first|apply gF|refine j04 rfl ?_)
  all_goals (try (conv=>whnf))
 |n + 5,h=>exact absurd h (by omega)
theorem jl4 {f g:Fm} {i:Nat} (h:¬ f.off i ≤ g.off i):∀ j,i < j→j6H f g j=false
 |0,h1=>absurd h1 (by omega)
 |j + 1,h1=>by
  rw [j6H]
  by_cases e:i=j
  ·subst e; simp [h]
  ·rw [jl4 h j (by omega)]; rfl
theorem j8z {f g:Fm} {i:Nat} (hi:i < 4) (h:¬ f.off i ≤ g.off i):jaE f g=false:=by
 rw [jaE,jl4 h 4 hi]; rfl
theorem jkm (f g:Fm) (hf:g.ok 1000000):Pf C1 83 [fmV f,fmV g] [bv (jaE f g)]:=by
 have hl:=jjD g hf
 refine j00 Tryz.func83 rfl rfl rfl ?_
 skip
 all_goals (try (conv=>whnf))
 refine j09 (G:=Nat) (fun i=>[(9,iv i)]) (fun i=>[.box 118 (fmC f),.box 118 (fmC g)]) (fun i=>i ≤ 4∧j6H f g i=true) (fun i=>4 - i) 0 ⟨by omega,rfl⟩ rfl rfl ?_
 rintro i ⟨hi,ho⟩
 match i,hi,ho with
 |0,_,ho =>
  repeat' ((conv=>whnf);first|refine VIf.tt rfl ?_)
  all_goals (try (conv=>whnf))
  refine VRes.mk (iv (f.off 0)) rfl ?_
  repeat' ((conv=>whnf);first|apply gE<;>intro h|apply gQ|refine gV ?_|refine j04 rfl ?_)
  all_goals (try (conv=>whnf))
  ·rw [j8z (f:=f) (g:=g) (i:=0) (by omega) (by omega)]
  ·exact VAgain.mk _ rfl _ (j0h rfl rfl rfl) ⟨1,⟨by omega,by rw [j6H,ho]; simp; omega⟩,by omega,rfl⟩
 |1,_,ho =>
  repeat' ((conv=>whnf);first|refine VIf.tt rfl ?_)
  all_goals (try (conv=>whnf))
  refine VRes.mk (iv (f.off 1)) rfl ?_
  repeat' ((conv=>whnf);first|apply gE<;>intro h|apply gQ|refine gV ?_|refine j04 rfl ?_)
  all_goals (try (conv=>whnf))
  ·rw [j8z (f:=f) (g:=g) (i:=1) (by omega) (by omega)]
  ·exact VAgain.mk _ rfl _ (j0h rfl rfl rfl) ⟨2,⟨by omega,by rw [j6H,ho]; simp; omega⟩,by omega,rfl⟩
 |2,_,ho =>
  repeat' ((conv=>whnf);first|refine VIf.tt rfl ?_)
  all_goals (try (conv=>whnf))
  refine VRes.mk (iv (f.off 2)) rfl ?_
  repeat' ((conv=>whnf);first|apply gE<;>intro h|apply gQ|refine gV ?_|refine j04 rfl ?_)
  all_goals (try (conv=>whnf))
  ·rw [j8z (f:=f) (g:=g) (i:=2) (by omega) (by omega)]
  ·exact VAgain.mk _ rfl _ (j0h rfl rfl rfl) ⟨3,⟨by omega,by rw [j6H,ho]; simp; omega⟩,by omega,rfl⟩
 |3,_,ho =>
  repeat' ((conv=>whnf);first|refine VIf.tt rfl ?_)
  all_goals (try (conv=>whnf))
  refine VRes.mk (iv (f.off 3)) rfl ?_
  repeat' ((conv=>whnf);first|apply gE<;>intro h|apply gQ|refine gV ?_|refine j04 rfl ?_)
  all_goals (try (conv=>whnf))
  ·rw [j8z (f:=f) (g:=g) (i:=3) (by omega) (by omega)]
  ·exact VAgain.mk _ rfl _ (j0h rfl rfl rfl) ⟨4,⟨by omega,by rw [j6H,ho]; simp; omega⟩,by omega,rfl⟩
 |4,_,ho =>
  repeat' ((conv=>whnf);first|apply gF|apply gO|apply gP|refine j04 rfl ?_|refine j05 hl (fun _=>?_)|apply gK)
  all_goals (try (conv=>whnf))
  rw [jaE,ho,Bool.true_and]
 |n + 5,h,_=>exact absurd h (by omega)
end Go.Proofs.YtljnahbgfmflaaaGreatDoor

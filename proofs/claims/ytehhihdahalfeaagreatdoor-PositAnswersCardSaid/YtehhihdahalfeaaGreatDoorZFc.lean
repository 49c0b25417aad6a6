/-
  Equality of structs of whole numbers and rows of them, in the plain machine. Plain lemmas, no statement of the seat.
-/
import Derived.Test.YtehhihdahalfeaaGreatDoorZPr
import Derived.Test.YtehhihdahalfeaaGreatDoorZSh
import Derived.Test.YtehhihdahalfeaaGreatDoorZPt
import Derived.Test.YtehhihdahalfeaaGreatDoorZTb
set_option linter.unusedVariables false
set_option linter.unusedSimpArgs false
set_option linter.unnecessarySimpa false
namespace Go.Proofs.YtehhihdahalfeaaGreatDoor
open Go Go.Am Go.Gw
theorem qb {P:Program} {α β:Type} {f:α→Sem β} {s:Sem α} {a:α} (h:qrun P s=some a):qrun P (s >>= f)=qrun P (f a):=qrun_bind h
theorem qprog {P:Program}:qrun P program=some P:=rfl
theorem qsize {P:Program} {T:TypeId} {i:TypeInfo} (h:P.info? T=some i):qrun P (sizeOf T)=some i.size:=by
  unfold sizeOf typeInfo
  simp [bind,Sem.bind,qrun,program,h]
  rfl
theorem qagg_no {P:Program} {T:TypeId} {k:IntKind} (h:P.underlying T=some (.int k)):qrun P (isAgg T)=some false:=by
  unfold isAgg
  rw [qb (qrun_under h)]
  rfl
theorem qagg_arr {P:Program} {T e:TypeId} {n:Nat} (h:P.underlying T=some (.array n e)):qrun P (isAgg T)=some true:=by
  unfold isAgg
  rw [qb (qrun_under h)]
  rfl
theorem qpart_int {P:Program} {T:TypeId} {k:IntKind} {cs:Array Value} {q:Nat} {v:Value} (h:P.underlying T=some (.int k)) (hv:cs[q]? = some v):qrun P (part T cs q)=some v:=by
  unfold part
  rw [qb (qagg_no h)]
  simp [hv,qrun,pure]
theorem qpart_arr {P:Program} {T e:TypeId} {n:Nat} {i:TypeInfo} {cs:Array Value} {q:Nat} (h:P.underlying T=some (.array n e)) (hi:P.info? T=some i):qrun P (part T cs q)=some (.agg (cs.extract q (q + i.size))):=by
  unfold part
  rw [qb (qagg_arr h)]
  simp only [if_true]
  rw [qb (qsize hi)]
  rfl
theorem qeq_int {P:Program} {T:TypeId} {k k':IntKind} {d:Nat} {a b:Int} (h:P.underlying T=some (.int k')):qrun P (Op.equalIn (d + 1) T (.int k a) (.int k b))=some (a == b):=by
  simp only [Op.equalIn]
  rw [qb (qrun_under h)]
  simp [qrun,pure]
theorem qeq_arr4 {P:Program} {T e:TypeId} {k:IntKind} {i:TypeInfo} {d:Nat} {a0 a1 a2 a3 b0 b1 b2 b3:Int} (h:P.underlying T=some (.array 4 e)) (he:P.underlying e=some (.int k)) (hi:P.info? e=some i) (h1:i.size=1) :
    qrun P (Op.equalIn (d + 2) T (.agg #[.int .i64 a0,.int .i64 a1,.int .i64 a2,.int .i64 a3]) (.agg #[.int .i64 b0,.int .i64 b1,.int .i64 b2,.int .i64 b3]))=some (decide (a0=b0) && (decide (a1=b1) && (decide (a2=b2) && decide (a3=b3)))):=by
  rw [Op.equalIn]
  rw [qb (qrun_under h)]
  simp only [Std.Legacy.Range.forIn_eq_forIn_range',Std.Legacy.Range.size,Nat.sub_zero,Nat.add_one_sub_one,Nat.div_one]
  rw [qb (qsize hi),h1]
  have hr:List.range' 0 4=[0,1,2,3]:=rfl
  simp only [hr,List.forIn_cons,List.forIn_nil,Nat.mul_one]
  have p:∀ (cs:Array Value) (q:Nat) (v:Value),cs[q]? = some v→qrun P (part e cs q)=some v:=fun cs q v hv=>qpart_int he hv
  have q:∀ (x y:Int),qrun P (Op.equalIn (d + 1) e (.int .i64 x) (.int .i64 y))=some (x == y):=fun x y=>qeq_int he
  have A0:=p #[.int .i64 a0,.int .i64 a1,.int .i64 a2,.int .i64 a3] 0 (.int .i64 a0) rfl
  have A1:=p #[.int .i64 a0,.int .i64 a1,.int .i64 a2,.int .i64 a3] 1 (.int .i64 a1) rfl
  have A2:=p #[.int .i64 a0,.int .i64 a1,.int .i64 a2,.int .i64 a3] 2 (.int .i64 a2) rfl
  have A3:=p #[.int .i64 a0,.int .i64 a1,.int .i64 a2,.int .i64 a3] 3 (.int .i64 a3) rfl
  have B0:=p #[.int .i64 b0,.int .i64 b1,.int .i64 b2,.int .i64 b3] 0 (.int .i64 b0) rfl
  have B1:=p #[.int .i64 b0,.int .i64 b1,.int .i64 b2,.int .i64 b3] 1 (.int .i64 b1) rfl
  have B2:=p #[.int .i64 b0,.int .i64 b1,.int .i64 b2,.int .i64 b3] 2 (.int .i64 b2) rfl
  have B3:=p #[.int .i64 b0,.int .i64 b1,.int .i64 b2,.int .i64 b3] 3 (.int .i64 b3) rfl
  have hp:∀ {α β:Type} (a:α) (f:α→Sem β),(Pure.pure a >>= f:Sem β)=f a:=fun _ _=>rfl
  simp only [bind_assoc,qb A0,qb B0,qb (q _ _)]
  by_cases k0:a0=b0
  · subst k0; simp only [beq_self_eq_true,Bool.not_true,Bool.false_eq_true,if_false,hp,bind_assoc,qb A1,qb B1,qb (q _ _),decide_true,Bool.true_and]
    by_cases k1:a1=b1
    · subst k1; simp only [beq_self_eq_true,Bool.not_true,Bool.false_eq_true,if_false,hp,bind_assoc,qb A2,qb B2,qb (q _ _),decide_true,Bool.true_and]
      by_cases k2:a2=b2
      · subst k2; simp only [beq_self_eq_true,Bool.not_true,Bool.false_eq_true,if_false,hp,bind_assoc,qb A3,qb B3,qb (q _ _),decide_true,Bool.true_and]
        by_cases k3:a3=b3
        · subst k3; simp only [beq_self_eq_true,Bool.not_true,Bool.false_eq_true,if_false,hp,decide_true]
          rfl
        · simp only [beq_eq_false_iff_ne.mpr k3,Bool.not_false,if_true,hp,decide_eq_false k3]
          rfl
      · simp only [beq_eq_false_iff_ne.mpr k2,Bool.not_false,if_true,hp,decide_eq_false k2,Bool.false_and]
        rfl
    · simp only [beq_eq_false_iff_ne.mpr k1,Bool.not_false,if_true,hp,decide_eq_false k1,Bool.false_and]
      rfl
  · simp only [beq_eq_false_iff_ne.mpr k0,Bool.not_false,if_true,hp,decide_eq_false k0,Bool.false_and]
    rfl
theorem qform_und:C1.P.underlying 183=some (.struct (C1.P.fieldsOf 183)):=by kernel_rfl
theorem qform_fields:(C1.P.fieldsOf 183).toList.map (fun f=>(f.name,f.type,f.offset))=[("num",3,0),("off",181,1)]:=by kernel_rfl
theorem qform_held:C1.P.stoodInHeld 183=false:=by kernel_rfl
theorem qform_guard:C1.P.eqGuardType C1.P.depth 183=false:=by kernel_rfl
theorem qint_inf:∃ i,C1.P.info? 3=some i∧i.size=1:=by
  have h:(C1.P.info? 3).map (·.size)=some 1:=by kernel_rfl
  cases e:C1.P.info? 3 with
  |none=>rw [e] at h; cases h
  |some i=>rw [e] at h; exact ⟨i,rfl,by simpa using h⟩
theorem qarr_inf:∃ i,C1.P.info? 181=some i∧i.size=4:=by
  have h:(C1.P.info? 181).map (·.size)=some 4:=by kernel_rfl
  cases e:C1.P.info? 181 with
  |none=>rw [e] at h; cases h
  |some i=>rw [e] at h; exact ⟨i,rfl,by simpa using h⟩
theorem qint_und:C1.P.underlying 3=some (.int .i64):=by kernel_rfl
theorem qarr_und:C1.P.underlying 181=some (.array 4 3):=by kernel_rfl
def fiv (a0 a1 a2 a3 a4:Int):Array Value:=#[.int .i64 a0,.int .i64 a1,.int .i64 a2,.int .i64 a3,.int .i64 a4]
theorem qeq_form {d:Nat} {a0 a1 a2 a3 a4 b0 b1 b2 b3 b4:Int} :
    qrun C1.P (Op.equalIn (d + 3) 183 (.agg (fiv a0 a1 a2 a3 a4)) (.agg (fiv b0 b1 b2 b3 b4)))=some (decide (a0=b0) && (decide (a1=b1) && (decide (a2=b2) && (decide (a3=b3) && decide (a4=b4))))):=by
  obtain ⟨i,hi,hs⟩:=qint_inf
  obtain ⟨j,hj,hs4⟩:=qarr_inf
  obtain ⟨f1,f2,hfl,h1,h2,h3,h4,h5,h6⟩:∃ f1 f2:Field,(C1.P.fieldsOf 183).toList=[f1,f2]∧f1.name = "num"∧f1.type=3∧f1.offset=0∧f2.name = "off"∧f2.type=181∧f2.offset=1:=by
    have h:=qform_fields
    match hq:(C1.P.fieldsOf 183).toList with
    |[]=>rw [hq] at h; simp at h
    |[_]=>rw [hq] at h; simp at h
    |[f1,f2]=>rw [hq] at h; simp at h; exact ⟨f1,f2,rfl,h.1.1,h.1.2.1,h.1.2.2,h.2.1,h.2.2.1,h.2.2.2⟩
    |_ :: _ :: _ :: _=>rw [hq] at h; simp at h
  rw [Op.equalIn]
  rw [qb (qrun_under qform_und)]
  have hp:∀ {α β:Type} (a:α) (f:α→Sem β),(Pure.pure a >>= f:Sem β)=f a:=fun _ _=>rfl
  simp only []
  rw [qb qprog]
  simp only [qform_held,Bool.false_eq_true,if_false]
  rw [← Array.forIn_toList,hfl]
  simp only [List.forIn_cons,List.forIn_nil,h1,h2,h3,h4,h5,h6,ne_eq,show ¬ ("num" = "_") from by decide,show ¬ ("off" = "_") from by decide,not_false_eq_true,if_true,bind_assoc]
  have A0:qrun C1.P (part 3 (fiv a0 a1 a2 a3 a4) 0)=some (.int .i64 a0):=qpart_int qint_und rfl
  have B0:qrun C1.P (part 3 (fiv b0 b1 b2 b3 b4) 0)=some (.int .i64 b0):=qpart_int qint_und rfl
  have A1:qrun C1.P (part 181 (fiv a0 a1 a2 a3 a4) 1)=some (.agg #[.int .i64 a1,.int .i64 a2,.int .i64 a3,.int .i64 a4]):=by rw [qpart_arr qarr_und hj,hs4]; rfl
  have B1:qrun C1.P (part 181 (fiv b0 b1 b2 b3 b4) 1)=some (.agg #[.int .i64 b1,.int .i64 b2,.int .i64 b3,.int .i64 b4]):=by rw [qpart_arr qarr_und hj,hs4]; rfl
  rw [qb A0,qb B0,qb (qeq_int qint_und)]
  by_cases k0:a0=b0
  · subst k0
    simp only [beq_self_eq_true,Bool.not_true,Bool.false_eq_true,if_false,hp,bind_assoc,decide_true,Bool.true_and]
    rw [qb A1,qb B1,qb (qeq_arr4 qarr_und qint_und hi hs)]
    cases (decide (a1=b1) && (decide (a2=b2) && (decide (a3=b3) && decide (a4=b4)))) <;> rfl
  · simp only [beq_eq_false_iff_ne.mpr k0,Bool.not_false,if_true,hp,decide_eq_false k0,Bool.false_and]
    rfl
theorem sform {x y:Operand} {a0 a1 a2 a3 a4 b0 b1 b2 b3 b4:Int} :
    slowBin C1.P .eql 183 x y (.ag [iv a0,iv a1,iv a2,iv a3,iv a4]) (.ag [iv b0,iv b1,iv b2,iv b3,iv b4])=some (bv (decide (a0=b0) && (decide (a1=b1) && (decide (a2=b2) && (decide (a3=b3) && decide (a4=b4)))))):=by
  show (qrun C1.P (do eqGuard .eql 183 x y (.agg (fiv a0 a1 a2 a3 a4)) (.agg (fiv b0 b1 b2 b3 b4)); binOp .eql 183 (.agg (fiv a0 a1 a2 a3 a4)) (.agg (fiv b0 b1 b2 b3 b4)))).bind ofVal=_
  have h1:qrun C1.P (eqGuard .eql 183 x y (.agg (fiv a0 a1 a2 a3 a4)) (.agg (fiv b0 b1 b2 b3 b4)))=some ():=by
    simp only [eqGuard,Bool.not_true,Bool.false_eq_true,if_false]
    rw [qb qprog,qb qprog]
    simp [qform_guard,qrun,pure]
  rw [qb h1]
  have h2:qrun C1.P (binOp .eql 183 (.agg (fiv a0 a1 a2 a3 a4)) (.agg (fiv b0 b1 b2 b3 b4)))=some (.bool (decide (a0=b0) && (decide (a1=b1) && (decide (a2=b2) && (decide (a3=b3) && decide (a4=b4)))))):=by
    simp only [binOp,Op.equal,Op.maxDepth]
    rw [qb (qeq_form (d:=9997))]
    rfl
  rw [h2]
  rfl
end Go.Proofs.YtehhihdahalfeaaGreatDoor
namespace Go.Proofs.YtehhihdahalfeaaGreatDoor
open Go Go.Am Go.Gw
def fmC (f:Fm):List PV:=[iv f.num,iv (f.off 0),iv (f.off 1),iv (f.off 2),iv (f.off 3)]
def fmV (f:Fm):PV:=.ag (fmC f)
set_option maxHeartbeats 1000000 in
set_option maxRecDepth 100000 in
theorem constant_can (n:Int):Pf C1 187 [iv n] [fmV (constF n)]:=by
  refine run_intro Tryz.func187 rfl rfl rfl ?_
  repeat' ((conv=>whnf);first|refine gT ?_|refine gF ?_|refine VIf.not ?_|refine gA ?_|refine gB ?_|refine VIf.dec (fun h=>?_) (fun h=>?_)|refine gC ?_|refine gD ?_|refine VIf.mk (fun h=>?_) (fun h=>?_)|refine gO ?_|refine gP ?_|refine VNat.mk _ rfl ?_|refine gV ?_|refine vret_pf rfl ?_|refine vret_take rfl rfl ?_|refine gK ?_)
  all_goals (try (conv=>whnf))
  refine loop_over (G:=Nat) (fun i=>[(7,iv i)]) (fun i=>[.box 183 [iv 0,iv 0,iv 0,iv 0,iv 0],.box 183 [iv n,iv (if 0 < i then -1 else 0),iv (if 1 < i then -1 else 0),iv (if 2 < i then -1 else 0),iv (if 3 < i then -1 else 0)]]) (fun i=>i ≤ 4) (fun i=>4 - i) 0 (by omega) rfl rfl ?_
  intro i hi
  match i,hi with
  |0,_ =>
    repeat' ((conv=>whnf);first|refine gT ?_|refine gF ?_|refine VIf.not ?_|refine gA ?_|refine gB ?_|refine VIf.dec (fun h=>?_) (fun h=>?_)|refine gC ?_|refine gD ?_|refine VIf.mk (fun h=>?_) (fun h=>?_)|refine gO ?_|refine gP ?_|refine VNat.mk _ rfl ?_|refine gV ?_|refine vret_pf rfl ?_|refine vret_take rfl rfl ?_|refine gK ?_)
    all_goals (try (conv=>whnf))
    exact VAgain.mk _ rfl _ (gc_take rfl rfl rfl) ⟨1,by omega,by omega,rfl⟩
  |1,_ =>
    repeat' ((conv=>whnf);first|refine gT ?_|refine gF ?_|refine VIf.not ?_|refine gA ?_|refine gB ?_|refine VIf.dec (fun h=>?_) (fun h=>?_)|refine gC ?_|refine gD ?_|refine VIf.mk (fun h=>?_) (fun h=>?_)|refine gO ?_|refine gP ?_|refine VNat.mk _ rfl ?_|refine gV ?_|refine vret_pf rfl ?_|refine vret_take rfl rfl ?_|refine gK ?_)
    all_goals (try (conv=>whnf))
    exact VAgain.mk _ rfl _ (gc_take rfl rfl rfl) ⟨2,by omega,by omega,rfl⟩
  |2,_ =>
    repeat' ((conv=>whnf);first|refine gT ?_|refine gF ?_|refine VIf.not ?_|refine gA ?_|refine gB ?_|refine VIf.dec (fun h=>?_) (fun h=>?_)|refine gC ?_|refine gD ?_|refine VIf.mk (fun h=>?_) (fun h=>?_)|refine gO ?_|refine gP ?_|refine VNat.mk _ rfl ?_|refine gV ?_|refine vret_pf rfl ?_|refine vret_take rfl rfl ?_|refine gK ?_)
    all_goals (try (conv=>whnf))
    exact VAgain.mk _ rfl _ (gc_take rfl rfl rfl) ⟨3,by omega,by omega,rfl⟩
  |3,_ =>
    repeat' ((conv=>whnf);first|refine gT ?_|refine gF ?_|refine VIf.not ?_|refine gA ?_|refine gB ?_|refine VIf.dec (fun h=>?_) (fun h=>?_)|refine gC ?_|refine gD ?_|refine VIf.mk (fun h=>?_) (fun h=>?_)|refine gO ?_|refine gP ?_|refine VNat.mk _ rfl ?_|refine gV ?_|refine vret_pf rfl ?_|refine vret_take rfl rfl ?_|refine gK ?_)
    all_goals (try (conv=>whnf))
    exact VAgain.mk _ rfl _ (gc_take rfl rfl rfl) ⟨4,by omega,by omega,rfl⟩
  |4,_ =>
    repeat' ((conv=>whnf);first|refine gT ?_|refine gF ?_|refine VIf.not ?_|refine gA ?_|refine gB ?_|refine VIf.dec (fun h=>?_) (fun h=>?_)|refine gC ?_|refine gD ?_|refine VIf.mk (fun h=>?_) (fun h=>?_)|refine gO ?_|refine gP ?_|refine VNat.mk _ rfl ?_|refine gV ?_|refine vret_pf rfl ?_|refine vret_take rfl rfl ?_|refine gK ?_)
    all_goals (try (conv=>whnf))
    rfl
  |n + 5,h=>exact absurd h (by omega)
set_option maxRecDepth 100000 in
theorem zero_can (f:Fm):Pf C1 189 [fmV f] [bv (zeroF f)]:=by
  have hc:=constant_can 0
  refine run_intro Tryz.func189 rfl rfl rfl ?_
  repeat' ((conv=>whnf);first|refine gT ?_|refine gF ?_|refine VIf.not ?_|refine gA ?_|refine gB ?_|refine VIf.dec (fun h=>?_) (fun h=>?_)|refine gC ?_|refine gD ?_|refine VIf.mk (fun h=>?_) (fun h=>?_)|refine gO ?_|refine gP ?_|refine VNat.mk _ rfl ?_|refine gV ?_|refine vret_pf rfl ?_|refine vret_take rfl rfl ?_|refine vcall_pf hc rfl rfl ?_|refine finds_pf hc (fun _=>?_)|refine gK ?_)
  all_goals (try (conv=>whnf))
  refine VRes.mk _ (sform (a0:=f.num) (a1:=f.off 0) (a2:=f.off 1) (a3:=f.off 2) (a4:=f.off 3) (b0:=0) (b1:=-1) (b2:=-1) (b3:=-1) (b4:=-1)) ?_
  repeat' ((conv=>whnf);first|refine gT ?_|refine gF ?_|refine VIf.not ?_|refine gA ?_|refine gB ?_|refine VIf.dec (fun h=>?_) (fun h=>?_)|refine gC ?_|refine gD ?_|refine VIf.mk (fun h=>?_) (fun h=>?_)|refine gO ?_|refine gP ?_|refine VNat.mk _ rfl ?_|refine gV ?_|refine vret_pf rfl ?_|refine vret_take rfl rfl ?_|refine gK ?_)
  all_goals (try (conv=>whnf))
  rfl
theorem rise_at {x:Int} (h:¬ x = -1):rise x=x + 1:=if_neg h
theorem rise_no {x:Int} (h:x = -1):rise x=x:=by simp [rise,h]
set_option maxHeartbeats 1000000 in
set_option maxRecDepth 100000 in
theorem raise_can (f:Fm) (hf:f.ok 1000000):Pf C1 188 [fmV f] [fmV (raiseF f)]:=by
  obtain ⟨⟨h0,h1⟩,h2⟩:=hf
  have k0:=h2 0
  have k1:=h2 1
  have k2:=h2 2
  have k3:=h2 3
  refine run_intro Tryz.func188 rfl rfl rfl ?_
  repeat' ((conv=>whnf);first|refine gT ?_|refine gF ?_|refine VIf.not ?_|refine gA ?_|refine gB ?_|refine VIf.dec (fun h=>?_) (fun h=>?_)|refine gC ?_|refine gD ?_|refine VIf.mk (fun h=>?_) (fun h=>?_)|refine gO ?_|refine gP ?_|refine VNat.mk _ rfl ?_|refine gV ?_|refine vret_pf rfl ?_|refine vret_take rfl rfl ?_|refine gK ?_)
  all_goals (try (conv=>whnf))
  · refine loop_over (G:=Nat) (fun i=>[(14,iv i)]) (fun i=>[.box 183 [iv f.num,iv (if 0 < i then rise (f.off 0) else f.off 0),iv (if 1 < i then rise (f.off 1) else f.off 1),iv (if 2 < i then rise (f.off 2) else f.off 2),iv (if 3 < i then rise (f.off 3) else f.off 3)],.box 183 [iv 0,iv 0,iv 0,iv 0,iv 0]]) (fun i=>i ≤ 4) (fun i=>4 - i) 0 (by omega) rfl rfl ?_
    intro i hi
    match i,hi with
    |0,_ =>
      repeat' ((conv=>whnf);first|refine gT ?_|refine gF ?_|refine VIf.not ?_|refine gA ?_|refine gB ?_|refine VIf.dec (fun h=>?_) (fun h=>?_)|refine gC ?_|refine gD ?_|refine VIf.mk (fun h=>?_) (fun h=>?_)|refine gO ?_|refine gP ?_|refine VNat.mk _ rfl ?_|refine gV ?_|refine vret_pf rfl ?_|refine vret_take rfl rfl ?_|refine gK ?_)
      all_goals (try (conv=>whnf))
      refine VRes.mk (iv (f.off 0)) rfl ?_
      repeat' ((conv=>whnf);first|refine gT ?_|refine gF ?_|refine VIf.not ?_|refine gA ?_|refine gB ?_|refine VIf.dec (fun h=>?_) (fun h=>?_)|refine gC ?_|refine gD ?_|refine VIf.mk (fun h=>?_) (fun h=>?_)|refine gO ?_|refine gP ?_|refine VNat.mk _ rfl ?_|refine gV ?_|refine vret_pf rfl ?_|refine vret_take rfl rfl ?_|refine gK ?_)
      all_goals (try (conv=>whnf))
      · exact VAgain.mk _ rfl _ (gc_take rfl rfl rfl) ⟨1,by omega,by omega,by rw [rise_no (x:=f.off 0) (by assumption)]; rfl⟩
      · exact VAgain.mk _ rfl _ (gc_take rfl rfl rfl) ⟨1,by omega,by omega,by rw [rise_at (x:=f.off 0) (by assumption)]; rfl⟩
    |1,_ =>
      repeat' ((conv=>whnf);first|refine gT ?_|refine gF ?_|refine VIf.not ?_|refine gA ?_|refine gB ?_|refine VIf.dec (fun h=>?_) (fun h=>?_)|refine gC ?_|refine gD ?_|refine VIf.mk (fun h=>?_) (fun h=>?_)|refine gO ?_|refine gP ?_|refine VNat.mk _ rfl ?_|refine gV ?_|refine vret_pf rfl ?_|refine vret_take rfl rfl ?_|refine gK ?_)
      all_goals (try (conv=>whnf))
      refine VRes.mk (iv (f.off 1)) rfl ?_
      repeat' ((conv=>whnf);first|refine gT ?_|refine gF ?_|refine VIf.not ?_|refine gA ?_|refine gB ?_|refine VIf.dec (fun h=>?_) (fun h=>?_)|refine gC ?_|refine gD ?_|refine VIf.mk (fun h=>?_) (fun h=>?_)|refine gO ?_|refine gP ?_|refine VNat.mk _ rfl ?_|refine gV ?_|refine vret_pf rfl ?_|refine vret_take rfl rfl ?_|refine gK ?_)
      all_goals (try (conv=>whnf))
      · exact VAgain.mk _ rfl _ (gc_take rfl rfl rfl) ⟨2,by omega,by omega,by rw [rise_no (x:=f.off 1) (by assumption)]; rfl⟩
      · exact VAgain.mk _ rfl _ (gc_take rfl rfl rfl) ⟨2,by omega,by omega,by rw [rise_at (x:=f.off 1) (by assumption)]; rfl⟩
    |2,_ =>
      repeat' ((conv=>whnf);first|refine gT ?_|refine gF ?_|refine VIf.not ?_|refine gA ?_|refine gB ?_|refine VIf.dec (fun h=>?_) (fun h=>?_)|refine gC ?_|refine gD ?_|refine VIf.mk (fun h=>?_) (fun h=>?_)|refine gO ?_|refine gP ?_|refine VNat.mk _ rfl ?_|refine gV ?_|refine vret_pf rfl ?_|refine vret_take rfl rfl ?_|refine gK ?_)
      all_goals (try (conv=>whnf))
      refine VRes.mk (iv (f.off 2)) rfl ?_
      repeat' ((conv=>whnf);first|refine gT ?_|refine gF ?_|refine VIf.not ?_|refine gA ?_|refine gB ?_|refine VIf.dec (fun h=>?_) (fun h=>?_)|refine gC ?_|refine gD ?_|refine VIf.mk (fun h=>?_) (fun h=>?_)|refine gO ?_|refine gP ?_|refine VNat.mk _ rfl ?_|refine gV ?_|refine vret_pf rfl ?_|refine vret_take rfl rfl ?_|refine gK ?_)
      all_goals (try (conv=>whnf))
      · exact VAgain.mk _ rfl _ (gc_take rfl rfl rfl) ⟨3,by omega,by omega,by rw [rise_no (x:=f.off 2) (by assumption)]; rfl⟩
      · exact VAgain.mk _ rfl _ (gc_take rfl rfl rfl) ⟨3,by omega,by omega,by rw [rise_at (x:=f.off 2) (by assumption)]; rfl⟩
    |3,_ =>
      repeat' ((conv=>whnf);first|refine gT ?_|refine gF ?_|refine VIf.not ?_|refine gA ?_|refine gB ?_|refine VIf.dec (fun h=>?_) (fun h=>?_)|refine gC ?_|refine gD ?_|refine VIf.mk (fun h=>?_) (fun h=>?_)|refine gO ?_|refine gP ?_|refine VNat.mk _ rfl ?_|refine gV ?_|refine vret_pf rfl ?_|refine vret_take rfl rfl ?_|refine gK ?_)
      all_goals (try (conv=>whnf))
      refine VRes.mk (iv (f.off 3)) rfl ?_
      repeat' ((conv=>whnf);first|refine gT ?_|refine gF ?_|refine VIf.not ?_|refine gA ?_|refine gB ?_|refine VIf.dec (fun h=>?_) (fun h=>?_)|refine gC ?_|refine gD ?_|refine VIf.mk (fun h=>?_) (fun h=>?_)|refine gO ?_|refine gP ?_|refine VNat.mk _ rfl ?_|refine gV ?_|refine vret_pf rfl ?_|refine vret_take rfl rfl ?_|refine gK ?_)
      all_goals (try (conv=>whnf))
      · exact VAgain.mk _ rfl _ (gc_take rfl rfl rfl) ⟨4,by omega,by omega,by rw [rise_no (x:=f.off 3) (by assumption)]; rfl⟩
      · exact VAgain.mk _ rfl _ (gc_take rfl rfl rfl) ⟨4,by omega,by omega,by rw [rise_at (x:=f.off 3) (by assumption)]; rfl⟩
    |4,_ =>
      repeat' ((conv=>whnf);first|refine gT ?_|refine gF ?_|refine VIf.not ?_|refine gA ?_|refine gB ?_|refine VIf.dec (fun h=>?_) (fun h=>?_)|refine gC ?_|refine gD ?_|refine VIf.mk (fun h=>?_) (fun h=>?_)|refine gO ?_|refine gP ?_|refine VNat.mk _ rfl ?_|refine gV ?_|refine vret_pf rfl ?_|refine vret_take rfl rfl ?_|refine gK ?_)
      all_goals (try (conv=>whnf))
      unfold raiseF
      rw [rise_no (x:=f.num) (by assumption)]
      rfl
    |n + 5,h=>exact absurd h (by omega)
  · refine loop_over (G:=Nat) (fun i=>[(14,iv i)]) (fun i=>[.box 183 [iv (f.num + 1),iv (if 0 < i then rise (f.off 0) else f.off 0),iv (if 1 < i then rise (f.off 1) else f.off 1),iv (if 2 < i then rise (f.off 2) else f.off 2),iv (if 3 < i then rise (f.off 3) else f.off 3)],.box 183 [iv 0,iv 0,iv 0,iv 0,iv 0]]) (fun i=>i ≤ 4) (fun i=>4 - i) 0 (by omega) rfl rfl ?_
    intro i hi
    match i,hi with
    |0,_ =>
      repeat' ((conv=>whnf);first|refine gT ?_|refine gF ?_|refine VIf.not ?_|refine gA ?_|refine gB ?_|refine VIf.dec (fun h=>?_) (fun h=>?_)|refine gC ?_|refine gD ?_|refine VIf.mk (fun h=>?_) (fun h=>?_)|refine gO ?_|refine gP ?_|refine VNat.mk _ rfl ?_|refine gV ?_|refine vret_pf rfl ?_|refine vret_take rfl rfl ?_|refine gK ?_)
      all_goals (try (conv=>whnf))
      refine VRes.mk (iv (f.off 0)) rfl ?_
      repeat' ((conv=>whnf);first|refine gT ?_|refine gF ?_|refine VIf.not ?_|refine gA ?_|refine gB ?_|refine VIf.dec (fun h=>?_) (fun h=>?_)|refine gC ?_|refine gD ?_|refine VIf.mk (fun h=>?_) (fun h=>?_)|refine gO ?_|refine gP ?_|refine VNat.mk _ rfl ?_|refine gV ?_|refine vret_pf rfl ?_|refine vret_take rfl rfl ?_|refine gK ?_)
      all_goals (try (conv=>whnf))
      · exact VAgain.mk _ rfl _ (gc_take rfl rfl rfl) ⟨1,by omega,by omega,by rw [rise_no (x:=f.off 0) (by assumption)]; rfl⟩
      · exact VAgain.mk _ rfl _ (gc_take rfl rfl rfl) ⟨1,by omega,by omega,by rw [rise_at (x:=f.off 0) (by assumption)]; rfl⟩
    |1,_ =>
      repeat' ((conv=>whnf);first|refine gT ?_|refine gF ?_|refine VIf.not ?_|refine gA ?_|refine gB ?_|refine VIf.dec (fun h=>?_) (fun h=>?_)|refine gC ?_|refine gD ?_|refine VIf.mk (fun h=>?_) (fun h=>?_)|refine gO ?_|refine gP ?_|refine VNat.mk _ rfl ?_|refine gV ?_|refine vret_pf rfl ?_|refine vret_take rfl rfl ?_|refine gK ?_)
      all_goals (try (conv=>whnf))
      refine VRes.mk (iv (f.off 1)) rfl ?_
      repeat' ((conv=>whnf);first|refine gT ?_|refine gF ?_|refine VIf.not ?_|refine gA ?_|refine gB ?_|refine VIf.dec (fun h=>?_) (fun h=>?_)|refine gC ?_|refine gD ?_|refine VIf.mk (fun h=>?_) (fun h=>?_)|refine gO ?_|refine gP ?_|refine VNat.mk _ rfl ?_|refine gV ?_|refine vret_pf rfl ?_|refine vret_take rfl rfl ?_|refine gK ?_)
      all_goals (try (conv=>whnf))
      · exact VAgain.mk _ rfl _ (gc_take rfl rfl rfl) ⟨2,by omega,by omega,by rw [rise_no (x:=f.off 1) (by assumption)]; rfl⟩
      · exact VAgain.mk _ rfl _ (gc_take rfl rfl rfl) ⟨2,by omega,by omega,by rw [rise_at (x:=f.off 1) (by assumption)]; rfl⟩
    |2,_ =>
      repeat' ((conv=>whnf);first|refine gT ?_|refine gF ?_|refine VIf.not ?_|refine gA ?_|refine gB ?_|refine VIf.dec (fun h=>?_) (fun h=>?_)|refine gC ?_|refine gD ?_|refine VIf.mk (fun h=>?_) (fun h=>?_)|refine gO ?_|refine gP ?_|refine VNat.mk _ rfl ?_|refine gV ?_|refine vret_pf rfl ?_|refine vret_take rfl rfl ?_|refine gK ?_)
      all_goals (try (conv=>whnf))
      refine VRes.mk (iv (f.off 2)) rfl ?_
      repeat' ((conv=>whnf);first|refine gT ?_|refine gF ?_|refine VIf.not ?_|refine gA ?_|refine gB ?_|refine VIf.dec (fun h=>?_) (fun h=>?_)|refine gC ?_|refine gD ?_|refine VIf.mk (fun h=>?_) (fun h=>?_)|refine gO ?_|refine gP ?_|refine VNat.mk _ rfl ?_|refine gV ?_|refine vret_pf rfl ?_|refine vret_take rfl rfl ?_|refine gK ?_)
      all_goals (try (conv=>whnf))
      · exact VAgain.mk _ rfl _ (gc_take rfl rfl rfl) ⟨3,by omega,by omega,by rw [rise_no (x:=f.off 2) (by assumption)]; rfl⟩
      · exact VAgain.mk _ rfl _ (gc_take rfl rfl rfl) ⟨3,by omega,by omega,by rw [rise_at (x:=f.off 2) (by assumption)]; rfl⟩
    |3,_ =>
      repeat' ((conv=>whnf);first|refine gT ?_|refine gF ?_|refine VIf.not ?_|refine gA ?_|refine gB ?_|refine VIf.dec (fun h=>?_) (fun h=>?_)|refine gC ?_|refine gD ?_|refine VIf.mk (fun h=>?_) (fun h=>?_)|refine gO ?_|refine gP ?_|refine VNat.mk _ rfl ?_|refine gV ?_|refine vret_pf rfl ?_|refine vret_take rfl rfl ?_|refine gK ?_)
      all_goals (try (conv=>whnf))
      refine VRes.mk (iv (f.off 3)) rfl ?_
      repeat' ((conv=>whnf);first|refine gT ?_|refine gF ?_|refine VIf.not ?_|refine gA ?_|refine gB ?_|refine VIf.dec (fun h=>?_) (fun h=>?_)|refine gC ?_|refine gD ?_|refine VIf.mk (fun h=>?_) (fun h=>?_)|refine gO ?_|refine gP ?_|refine VNat.mk _ rfl ?_|refine gV ?_|refine vret_pf rfl ?_|refine vret_take rfl rfl ?_|refine gK ?_)
      all_goals (try (conv=>whnf))
      · exact VAgain.mk _ rfl _ (gc_take rfl rfl rfl) ⟨4,by omega,by omega,by rw [rise_no (x:=f.off 3) (by assumption)]; rfl⟩
      · exact VAgain.mk _ rfl _ (gc_take rfl rfl rfl) ⟨4,by omega,by omega,by rw [rise_at (x:=f.off 3) (by assumption)]; rfl⟩
    |4,_ =>
      repeat' ((conv=>whnf);first|refine gT ?_|refine gF ?_|refine VIf.not ?_|refine gA ?_|refine gB ?_|refine VIf.dec (fun h=>?_) (fun h=>?_)|refine gC ?_|refine gD ?_|refine VIf.mk (fun h=>?_) (fun h=>?_)|refine gO ?_|refine gP ?_|refine VNat.mk _ rfl ?_|refine gV ?_|refine vret_pf rfl ?_|refine vret_take rfl rfl ?_|refine gK ?_)
      all_goals (try (conv=>whnf))
      unfold raiseF
      rw [rise_at (x:=f.num) (by assumption)]
      rfl
    |n + 5,h=>exact absurd h (by omega)
def mx (x y:Int):Int:=if y > x then y else x
theorem mx_max (x y:Int):mx x y=max x y:=by unfold mx; split <;> omega
theorem join_mx (f g:Fm):(joinF f g:Fm)=⟨mx f.num g.num,fun j=>mx (f.off j) (g.off j)⟩:=by simp only [mx_max]; rfl
set_option maxHeartbeats 1000000 in
set_option maxRecDepth 100000 in
theorem joinF_can (f g:Fm):Pf C1 190 [fmV f,fmV g] [fmV (joinF f g)]:=by
  rw [join_mx]
  refine run_intro Tryz.func190 rfl rfl rfl ?_
  repeat' ((conv=>whnf);first|refine gT ?_|refine gF ?_|refine VIf.not ?_|refine gA ?_|refine gB ?_|refine VIf.dec (fun h=>?_) (fun h=>?_)|refine gC ?_|refine gD ?_|refine VIf.mk (fun h=>?_) (fun h=>?_)|refine gO ?_|refine gP ?_|refine VNat.mk _ rfl ?_|refine gV ?_|refine vret_pf rfl ?_|refine vret_take rfl rfl ?_|refine gK ?_)
  all_goals (try (conv=>whnf))
  refine loop_over (G:=Nat) (fun i=>[(15,iv i)]) (fun i=>[.box 183 [iv (mx f.num g.num),iv (if 0 < i then mx (f.off 0) (g.off 0) else f.off 0),iv (if 1 < i then mx (f.off 1) (g.off 1) else f.off 1),iv (if 2 < i then mx (f.off 2) (g.off 2) else f.off 2),iv (if 3 < i then mx (f.off 3) (g.off 3) else f.off 3)],.box 183 (fmC g),.box 183 [iv 0,iv 0,iv 0,iv 0,iv 0]]) (fun i=>i ≤ 4) (fun i=>4 - i) 0 (by omega) rfl rfl ?_
  intro i hi
  match i,hi with
  |0,_ =>
    repeat' ((conv=>whnf);first|refine gT ?_|refine gF ?_|refine VIf.not ?_|refine gA ?_|refine gB ?_|refine VIf.dec (fun h=>?_) (fun h=>?_)|refine gC ?_|refine gD ?_|refine VIf.mk (fun h=>?_) (fun h=>?_)|refine gO ?_|refine gP ?_|refine VNat.mk _ rfl ?_|refine gV ?_|refine vret_pf rfl ?_|refine vret_take rfl rfl ?_|refine gK ?_)
    all_goals (try (conv=>whnf))
    refine VRes.mk (iv (g.off 0)) rfl ?_
    repeat' ((conv=>whnf);first|refine gT ?_|refine gF ?_|refine VIf.not ?_|refine gA ?_|refine gB ?_|refine VIf.dec (fun h=>?_) (fun h=>?_)|refine gC ?_|refine gD ?_|refine VIf.mk (fun h=>?_) (fun h=>?_)|refine gO ?_|refine gP ?_|refine VNat.mk _ rfl ?_|refine gV ?_|refine vret_pf rfl ?_|refine vret_take rfl rfl ?_|refine gK ?_)
    all_goals (try (conv=>whnf))
    exact VAgain.mk _ rfl _ (gc_take rfl rfl rfl) ⟨1,by omega,by omega,rfl⟩
  |1,_ =>
    repeat' ((conv=>whnf);first|refine gT ?_|refine gF ?_|refine VIf.not ?_|refine gA ?_|refine gB ?_|refine VIf.dec (fun h=>?_) (fun h=>?_)|refine gC ?_|refine gD ?_|refine VIf.mk (fun h=>?_) (fun h=>?_)|refine gO ?_|refine gP ?_|refine VNat.mk _ rfl ?_|refine gV ?_|refine vret_pf rfl ?_|refine vret_take rfl rfl ?_|refine gK ?_)
    all_goals (try (conv=>whnf))
    refine VRes.mk (iv (g.off 1)) rfl ?_
    repeat' ((conv=>whnf);first|refine gT ?_|refine gF ?_|refine VIf.not ?_|refine gA ?_|refine gB ?_|refine VIf.dec (fun h=>?_) (fun h=>?_)|refine gC ?_|refine gD ?_|refine VIf.mk (fun h=>?_) (fun h=>?_)|refine gO ?_|refine gP ?_|refine VNat.mk _ rfl ?_|refine gV ?_|refine vret_pf rfl ?_|refine vret_take rfl rfl ?_|refine gK ?_)
    all_goals (try (conv=>whnf))
    exact VAgain.mk _ rfl _ (gc_take rfl rfl rfl) ⟨2,by omega,by omega,rfl⟩
  |2,_ =>
    repeat' ((conv=>whnf);first|refine gT ?_|refine gF ?_|refine VIf.not ?_|refine gA ?_|refine gB ?_|refine VIf.dec (fun h=>?_) (fun h=>?_)|refine gC ?_|refine gD ?_|refine VIf.mk (fun h=>?_) (fun h=>?_)|refine gO ?_|refine gP ?_|refine VNat.mk _ rfl ?_|refine gV ?_|refine vret_pf rfl ?_|refine vret_take rfl rfl ?_|refine gK ?_)
    all_goals (try (conv=>whnf))
    refine VRes.mk (iv (g.off 2)) rfl ?_
    repeat' ((conv=>whnf);first|refine gT ?_|refine gF ?_|refine VIf.not ?_|refine gA ?_|refine gB ?_|refine VIf.dec (fun h=>?_) (fun h=>?_)|refine gC ?_|refine gD ?_|refine VIf.mk (fun h=>?_) (fun h=>?_)|refine gO ?_|refine gP ?_|refine VNat.mk _ rfl ?_|refine gV ?_|refine vret_pf rfl ?_|refine vret_take rfl rfl ?_|refine gK ?_)
    all_goals (try (conv=>whnf))
    exact VAgain.mk _ rfl _ (gc_take rfl rfl rfl) ⟨3,by omega,by omega,rfl⟩
  |3,_ =>
    repeat' ((conv=>whnf);first|refine gT ?_|refine gF ?_|refine VIf.not ?_|refine gA ?_|refine gB ?_|refine VIf.dec (fun h=>?_) (fun h=>?_)|refine gC ?_|refine gD ?_|refine VIf.mk (fun h=>?_) (fun h=>?_)|refine gO ?_|refine gP ?_|refine VNat.mk _ rfl ?_|refine gV ?_|refine vret_pf rfl ?_|refine vret_take rfl rfl ?_|refine gK ?_)
    all_goals (try (conv=>whnf))
    refine VRes.mk (iv (g.off 3)) rfl ?_
    repeat' ((conv=>whnf);first|refine gT ?_|refine gF ?_|refine VIf.not ?_|refine gA ?_|refine gB ?_|refine VIf.dec (fun h=>?_) (fun h=>?_)|refine gC ?_|refine gD ?_|refine VIf.mk (fun h=>?_) (fun h=>?_)|refine gO ?_|refine gP ?_|refine VNat.mk _ rfl ?_|refine gV ?_|refine vret_pf rfl ?_|refine vret_take rfl rfl ?_|refine gK ?_)
    all_goals (try (conv=>whnf))
    exact VAgain.mk _ rfl _ (gc_take rfl rfl rfl) ⟨4,by omega,by omega,rfl⟩
  |4,_ =>
    repeat' ((conv=>whnf);first|refine gT ?_|refine gF ?_|refine VIf.not ?_|refine gA ?_|refine gB ?_|refine VIf.dec (fun h=>?_) (fun h=>?_)|refine gC ?_|refine gD ?_|refine VIf.mk (fun h=>?_) (fun h=>?_)|refine gO ?_|refine gP ?_|refine VNat.mk _ rfl ?_|refine gV ?_|refine vret_pf rfl ?_|refine vret_take rfl rfl ?_|refine gK ?_)
    all_goals (try (conv=>whnf))
    rfl
  |n + 5,h=>exact absurd h (by omega)
def lst (f:Fm):Nat→Int
  |0=>f.num
  |i + 1=>if f.off i = -1 then lst f i else mx (lst f i) (f.off i + 1)
theorem lst_no {f:Fm} {i:Nat} (h:f.off i = -1):lst f (i + 1)=lst f i:=by simp [lst,h]
theorem lst_at {f:Fm} {i:Nat} (h:¬ f.off i = -1):lst f (i + 1)=mx (lst f i) (f.off i + 1):=by simp [lst,h]
theorem lst_to (f:Fm):∀ i,leastTo f i=lst f i
  |0=>rfl
  |i + 1=>by rw [leastTo,lst,lst_to f i,mx_max]
set_option maxHeartbeats 1000000 in
set_option maxRecDepth 100000 in
theorem least_can (f:Fm) (hf:f.ok 1000000):Pf C1 191 [fmV f] [iv (leastF f)]:=by
  obtain ⟨⟨h0,h1⟩,h2⟩:=hf
  have k0:=h2 0
  have k1:=h2 1
  have k2:=h2 2
  have k3:=h2 3
  rw [leastF,lst_to]
  refine run_intro Tryz.func191 rfl rfl rfl ?_
  repeat' ((conv=>whnf);first|refine gT ?_|refine gF ?_|refine VIf.not ?_|refine gA ?_|refine gB ?_|refine VIf.dec (fun h=>?_) (fun h=>?_)|refine gC ?_|refine gD ?_|refine VIf.mk (fun h=>?_) (fun h=>?_)|refine gO ?_|refine gP ?_|refine VNat.mk _ rfl ?_|refine gV ?_|refine vret_pf rfl ?_|refine vret_take rfl rfl ?_|refine gK ?_)
  all_goals (try (conv=>whnf))
  refine loop_over (G:=Nat) (fun i=>[(10,iv i),(3,iv (lst f i))]) (fun i=>[.box 183 (fmC f)]) (fun i=>i ≤ 4) (fun i=>4 - i) 0 (by omega) rfl rfl ?_
  intro i hi
  match i,hi with
  |0,_ =>
    repeat' ((conv=>whnf);first|refine gT ?_|refine gF ?_|refine VIf.not ?_|refine gA ?_|refine gB ?_|refine VIf.dec (fun h=>?_) (fun h=>?_)|refine gC ?_|refine gD ?_|refine VIf.mk (fun h=>?_) (fun h=>?_)|refine gO ?_|refine gP ?_|refine VNat.mk _ rfl ?_|refine gV ?_|refine vret_pf rfl ?_|refine vret_take rfl rfl ?_|refine gK ?_)
    all_goals (try (conv=>whnf))
    refine VRes.mk (iv (f.off 0)) rfl ?_
    repeat' ((conv=>whnf);first|refine gT ?_|refine gF ?_|refine VIf.not ?_|refine gA ?_|refine gB ?_|refine VIf.dec (fun h=>?_) (fun h=>?_)|refine gC ?_|refine gD ?_|refine VIf.mk (fun h=>?_) (fun h=>?_)|refine gO ?_|refine gP ?_|refine VNat.mk _ rfl ?_|refine gV ?_|refine vret_pf rfl ?_|refine vret_take rfl rfl ?_|refine gK ?_)
    all_goals (try (conv=>whnf))
    · exact VAgain.mk _ rfl _ (gc_take rfl rfl rfl) ⟨1,by omega,by omega,by rw [lst_no (f:=f) (i:=0) (by assumption)]; rfl⟩
    · exact VAgain.mk _ rfl _ (gc_take rfl rfl rfl) ⟨1,by omega,by omega,by rw [lst_at (f:=f) (i:=0) (by assumption)]; rfl⟩
  |1,_ =>
    repeat' ((conv=>whnf);first|refine gT ?_|refine gF ?_|refine VIf.not ?_|refine gA ?_|refine gB ?_|refine VIf.dec (fun h=>?_) (fun h=>?_)|refine gC ?_|refine gD ?_|refine VIf.mk (fun h=>?_) (fun h=>?_)|refine gO ?_|refine gP ?_|refine VNat.mk _ rfl ?_|refine gV ?_|refine vret_pf rfl ?_|refine vret_take rfl rfl ?_|refine gK ?_)
    all_goals (try (conv=>whnf))
    refine VRes.mk (iv (f.off 1)) rfl ?_
    repeat' ((conv=>whnf);first|refine gT ?_|refine gF ?_|refine VIf.not ?_|refine gA ?_|refine gB ?_|refine VIf.dec (fun h=>?_) (fun h=>?_)|refine gC ?_|refine gD ?_|refine VIf.mk (fun h=>?_) (fun h=>?_)|refine gO ?_|refine gP ?_|refine VNat.mk _ rfl ?_|refine gV ?_|refine vret_pf rfl ?_|refine vret_take rfl rfl ?_|refine gK ?_)
    all_goals (try (conv=>whnf))
    · exact VAgain.mk _ rfl _ (gc_take rfl rfl rfl) ⟨2,by omega,by omega,by rw [lst_no (f:=f) (i:=1) (by assumption)]; rfl⟩
    · exact VAgain.mk _ rfl _ (gc_take rfl rfl rfl) ⟨2,by omega,by omega,by rw [lst_at (f:=f) (i:=1) (by assumption)]; rfl⟩
  |2,_ =>
    repeat' ((conv=>whnf);first|refine gT ?_|refine gF ?_|refine VIf.not ?_|refine gA ?_|refine gB ?_|refine VIf.dec (fun h=>?_) (fun h=>?_)|refine gC ?_|refine gD ?_|refine VIf.mk (fun h=>?_) (fun h=>?_)|refine gO ?_|refine gP ?_|refine VNat.mk _ rfl ?_|refine gV ?_|refine vret_pf rfl ?_|refine vret_take rfl rfl ?_|refine gK ?_)
    all_goals (try (conv=>whnf))
    refine VRes.mk (iv (f.off 2)) rfl ?_
    repeat' ((conv=>whnf);first|refine gT ?_|refine gF ?_|refine VIf.not ?_|refine gA ?_|refine gB ?_|refine VIf.dec (fun h=>?_) (fun h=>?_)|refine gC ?_|refine gD ?_|refine VIf.mk (fun h=>?_) (fun h=>?_)|refine gO ?_|refine gP ?_|refine VNat.mk _ rfl ?_|refine gV ?_|refine vret_pf rfl ?_|refine vret_take rfl rfl ?_|refine gK ?_)
    all_goals (try (conv=>whnf))
    · exact VAgain.mk _ rfl _ (gc_take rfl rfl rfl) ⟨3,by omega,by omega,by rw [lst_no (f:=f) (i:=2) (by assumption)]; rfl⟩
    · exact VAgain.mk _ rfl _ (gc_take rfl rfl rfl) ⟨3,by omega,by omega,by rw [lst_at (f:=f) (i:=2) (by assumption)]; rfl⟩
  |3,_ =>
    repeat' ((conv=>whnf);first|refine gT ?_|refine gF ?_|refine VIf.not ?_|refine gA ?_|refine gB ?_|refine VIf.dec (fun h=>?_) (fun h=>?_)|refine gC ?_|refine gD ?_|refine VIf.mk (fun h=>?_) (fun h=>?_)|refine gO ?_|refine gP ?_|refine VNat.mk _ rfl ?_|refine gV ?_|refine vret_pf rfl ?_|refine vret_take rfl rfl ?_|refine gK ?_)
    all_goals (try (conv=>whnf))
    refine VRes.mk (iv (f.off 3)) rfl ?_
    repeat' ((conv=>whnf);first|refine gT ?_|refine gF ?_|refine VIf.not ?_|refine gA ?_|refine gB ?_|refine VIf.dec (fun h=>?_) (fun h=>?_)|refine gC ?_|refine gD ?_|refine VIf.mk (fun h=>?_) (fun h=>?_)|refine gO ?_|refine gP ?_|refine VNat.mk _ rfl ?_|refine gV ?_|refine vret_pf rfl ?_|refine vret_take rfl rfl ?_|refine gK ?_)
    all_goals (try (conv=>whnf))
    · exact VAgain.mk _ rfl _ (gc_take rfl rfl rfl) ⟨4,by omega,by omega,by rw [lst_no (f:=f) (i:=3) (by assumption)]; rfl⟩
    · exact VAgain.mk _ rfl _ (gc_take rfl rfl rfl) ⟨4,by omega,by omega,by rw [lst_at (f:=f) (i:=3) (by assumption)]; rfl⟩
  |4,_ =>
    repeat' ((conv=>whnf);first|refine gT ?_|refine gF ?_|refine VIf.not ?_|refine gA ?_|refine gB ?_|refine VIf.dec (fun h=>?_) (fun h=>?_)|refine gC ?_|refine gD ?_|refine VIf.mk (fun h=>?_) (fun h=>?_)|refine gO ?_|refine gP ?_|refine VNat.mk _ rfl ?_|refine gV ?_|refine vret_pf rfl ?_|refine vret_take rfl rfl ?_|refine gK ?_)
    all_goals (try (conv=>whnf))
  |n + 5,h=>exact absurd h (by omega)
theorem offs_no {f g:Fm} {i:Nat} (h:¬ f.off i ≤ g.off i):∀ j,i < j→offsTo f g j=false
  |0,h1=>absurd h1 (by omega)
  |j + 1,h1=>by
    rw [offsTo]
    by_cases e:i=j
    · subst e; simp [h]
    · rw [offs_no h j (by omega)]; rfl
theorem below_no {f g:Fm} {i:Nat} (hi:i < 4) (h:¬ f.off i ≤ g.off i):belowF f g=false:=by
  rw [belowF,offs_no h 4 hi]; rfl
set_option maxHeartbeats 1000000 in
set_option maxRecDepth 100000 in
theorem below_can (f g:Fm) (hf:g.ok 1000000):Pf C1 153 [fmV f,fmV g] [bv (belowF f g)]:=by
  have hl:=least_can g hf
  refine run_intro Tryz.func153 rfl rfl rfl ?_
  repeat' ((conv=>whnf);first|refine gT ?_|refine gF ?_|refine VIf.not ?_|refine gA ?_|refine gB ?_|refine VIf.dec (fun h=>?_) (fun h=>?_)|refine gC ?_|refine gD ?_|refine VIf.mk (fun h=>?_) (fun h=>?_)|refine gO ?_|refine gP ?_|refine VNat.mk _ rfl ?_|refine gV ?_|refine vret_pf rfl ?_|refine vret_take rfl rfl ?_|refine gK ?_)
  all_goals (try (conv=>whnf))
  refine loop_over (G:=Nat) (fun i=>[(9,iv i)]) (fun i=>[.box 183 (fmC f),.box 183 (fmC g)]) (fun i=>i ≤ 4∧offsTo f g i=true) (fun i=>4 - i) 0 ⟨by omega,rfl⟩ rfl rfl ?_
  rintro i ⟨hi,ho⟩
  match i,hi,ho with
  |0,_,ho =>
    repeat' ((conv=>whnf);first|refine gT ?_|refine gF ?_|refine VIf.not ?_|refine gA ?_|refine gB ?_|refine VIf.dec (fun h=>?_) (fun h=>?_)|refine gC ?_|refine gD ?_|refine VIf.mk (fun h=>?_) (fun h=>?_)|refine gO ?_|refine gP ?_|refine VNat.mk _ rfl ?_|refine gV ?_|refine vret_pf rfl ?_|refine vret_take rfl rfl ?_|refine gK ?_)
    all_goals (try (conv=>whnf))
    refine VRes.mk (iv (f.off 0)) rfl ?_
    repeat' ((conv=>whnf);first|refine gT ?_|refine gF ?_|refine VIf.not ?_|refine gA ?_|refine gB ?_|refine VIf.dec (fun h=>?_) (fun h=>?_)|refine gC ?_|refine gD ?_|refine VIf.mk (fun h=>?_) (fun h=>?_)|refine gO ?_|refine gP ?_|refine VNat.mk _ rfl ?_|refine gV ?_|refine vret_pf rfl ?_|refine vret_take rfl rfl ?_|refine gK ?_)
    all_goals (try (conv=>whnf))
    · rw [below_no (f:=f) (g:=g) (i:=0) (by omega) (by omega)]
    · exact VAgain.mk _ rfl _ (gc_take rfl rfl rfl) ⟨1,⟨by omega,by rw [offsTo,ho]; simp; omega⟩,by omega,rfl⟩
  |1,_,ho =>
    repeat' ((conv=>whnf);first|refine gT ?_|refine gF ?_|refine VIf.not ?_|refine gA ?_|refine gB ?_|refine VIf.dec (fun h=>?_) (fun h=>?_)|refine gC ?_|refine gD ?_|refine VIf.mk (fun h=>?_) (fun h=>?_)|refine gO ?_|refine gP ?_|refine VNat.mk _ rfl ?_|refine gV ?_|refine vret_pf rfl ?_|refine vret_take rfl rfl ?_|refine gK ?_)
    all_goals (try (conv=>whnf))
    refine VRes.mk (iv (f.off 1)) rfl ?_
    repeat' ((conv=>whnf);first|refine gT ?_|refine gF ?_|refine VIf.not ?_|refine gA ?_|refine gB ?_|refine VIf.dec (fun h=>?_) (fun h=>?_)|refine gC ?_|refine gD ?_|refine VIf.mk (fun h=>?_) (fun h=>?_)|refine gO ?_|refine gP ?_|refine VNat.mk _ rfl ?_|refine gV ?_|refine vret_pf rfl ?_|refine vret_take rfl rfl ?_|refine gK ?_)
    all_goals (try (conv=>whnf))
    · rw [below_no (f:=f) (g:=g) (i:=1) (by omega) (by omega)]
    · exact VAgain.mk _ rfl _ (gc_take rfl rfl rfl) ⟨2,⟨by omega,by rw [offsTo,ho]; simp; omega⟩,by omega,rfl⟩
  |2,_,ho =>
    repeat' ((conv=>whnf);first|refine gT ?_|refine gF ?_|refine VIf.not ?_|refine gA ?_|refine gB ?_|refine VIf.dec (fun h=>?_) (fun h=>?_)|refine gC ?_|refine gD ?_|refine VIf.mk (fun h=>?_) (fun h=>?_)|refine gO ?_|refine gP ?_|refine VNat.mk _ rfl ?_|refine gV ?_|refine vret_pf rfl ?_|refine vret_take rfl rfl ?_|refine gK ?_)
    all_goals (try (conv=>whnf))
    refine VRes.mk (iv (f.off 2)) rfl ?_
    repeat' ((conv=>whnf);first|refine gT ?_|refine gF ?_|refine VIf.not ?_|refine gA ?_|refine gB ?_|refine VIf.dec (fun h=>?_) (fun h=>?_)|refine gC ?_|refine gD ?_|refine VIf.mk (fun h=>?_) (fun h=>?_)|refine gO ?_|refine gP ?_|refine VNat.mk _ rfl ?_|refine gV ?_|refine vret_pf rfl ?_|refine vret_take rfl rfl ?_|refine gK ?_)
    all_goals (try (conv=>whnf))
    · rw [below_no (f:=f) (g:=g) (i:=2) (by omega) (by omega)]
    · exact VAgain.mk _ rfl _ (gc_take rfl rfl rfl) ⟨3,⟨by omega,by rw [offsTo,ho]; simp; omega⟩,by omega,rfl⟩
  |3,_,ho =>
    repeat' ((conv=>whnf);first|refine gT ?_|refine gF ?_|refine VIf.not ?_|refine gA ?_|refine gB ?_|refine VIf.dec (fun h=>?_) (fun h=>?_)|refine gC ?_|refine gD ?_|refine VIf.mk (fun h=>?_) (fun h=>?_)|refine gO ?_|refine gP ?_|refine VNat.mk _ rfl ?_|refine gV ?_|refine vret_pf rfl ?_|refine vret_take rfl rfl ?_|refine gK ?_)
    all_goals (try (conv=>whnf))
    refine VRes.mk (iv (f.off 3)) rfl ?_
    repeat' ((conv=>whnf);first|refine gT ?_|refine gF ?_|refine VIf.not ?_|refine gA ?_|refine gB ?_|refine VIf.dec (fun h=>?_) (fun h=>?_)|refine gC ?_|refine gD ?_|refine VIf.mk (fun h=>?_) (fun h=>?_)|refine gO ?_|refine gP ?_|refine VNat.mk _ rfl ?_|refine gV ?_|refine vret_pf rfl ?_|refine vret_take rfl rfl ?_|refine gK ?_)
    all_goals (try (conv=>whnf))
    · rw [below_no (f:=f) (g:=g) (i:=3) (by omega) (by omega)]
    · exact VAgain.mk _ rfl _ (gc_take rfl rfl rfl) ⟨4,⟨by omega,by rw [offsTo,ho]; simp; omega⟩,by omega,rfl⟩
  |4,_,ho =>
    repeat' ((conv=>whnf);first|refine gT ?_|refine gF ?_|refine VIf.not ?_|refine gA ?_|refine gB ?_|refine VIf.dec (fun h=>?_) (fun h=>?_)|refine gC ?_|refine gD ?_|refine VIf.mk (fun h=>?_) (fun h=>?_)|refine gO ?_|refine gP ?_|refine VNat.mk _ rfl ?_|refine gV ?_|refine vret_pf rfl ?_|refine vret_take rfl rfl ?_|refine vcall_pf hl rfl rfl ?_|refine finds_pf hl (fun _=>?_)|refine gK ?_)
    all_goals (try (conv=>whnf))
    rw [belowF,ho,Bool.true_and]
  |n + 5,h,_=>exact absurd h (by omega)
end Go.Proofs.YtehhihdahalfeaaGreatDoor
namespace Go.Proofs.YtehhihdahalfeaaGreatDoor
open Go Go.Am Go.Gw
theorem sshr {P:Program} {T:TypeId} {x y:Operand} {i j:Int} {q:Nat} (hq:j=(q:Int)) (hlt:q ≤ 63):slowBin P .shr T x y (iv i) (iv j)=some (iv (i / 2 ^ q)):=by
  have h1:¬ j < 0:=by omega
  have h2:min j.toNat IntKind.i64.bits=q:=by simp [IntKind.bits]; omega
  have h3:i.fdiv (2 ^ q)=i / 2 ^ q:=Int.fdiv_eq_ediv_of_nonneg i (Int.le_of_lt (Int.pow_pos (by omega)))
  simp only [slowBin,toVal,eqGuard,binOp,Op.shift,if_neg h1,h2,h3]
  rfl
theorem sand1 {P:Program} {T:TypeId} {x y:Operand} {i:Int} (h0:0 ≤ i) (h1:i < 64):slowBin P .and T x y (iv i) (iv 1)=some (iv (i % 2)):=by
  have h:=and_one_small ⟨i.toNat,by omega⟩
  simp only [Int.toNat_of_nonneg h0] at h
  have e:((i.toNat % 2:Nat):Int)=i % 2:=by omega
  rw [e] at h
  simp only [slowBin,toVal,eqGuard,binOp,ne_eq,not_true_eq_false,if_false,Op.intBits]
  rw [← h]
  rfl
theorem paramF_1 {z:Int} {q:Nat} (h:z / 2 ^ q % 2=0):paramF z q=⟨-1,fun j=>if (j:Int)=q then 0 else -1⟩:=by
  unfold paramF bit; rw [if_pos (by simpa using h)]
theorem paramF_0 {z:Int} {q:Nat} (h:¬ z / 2 ^ q % 2=0):paramF z q=constF 0:=by
  unfold paramF bit; rw [if_neg (by simpa using h)]
theorem formF_2 {nn z:Int} {ls:List Lv}:formF (.mk 2 nn ls) z=paramF z nn:=by simp [formF,formNode]
theorem formF_1 {nn z:Int} {ls:List Lv}:formF (.mk 1 nn ls) z=constF nn:=by simp [formF,formNode]
set_option maxHeartbeats 1000000 in
set_option maxRecDepth 100000 in
theorem formedP_can (q:Nat) (hq:q < 4) (zz:Nat) (b:Bool) (xs:List PV) (z:Int) (hz:zz=3∨xs=[]) (hz0:0 ≤ z) (hz1:z < 16):Pf C1 152 [.ag [iv 2,iv q,.sl b zz xs],iv z] [fmV (paramF z q)]:=by
  have hc0:=constant_can 0
  obtain rfl|rfl|rfl|rfl:q=0∨q=1∨q=2∨q=3:=by omega
  all_goals
    refine run_intro Tryz.func152 rfl rfl rfl ?_
    repeat' ((conv=>whnf);first|refine gT ?_|refine gF ?_|refine VIf.not ?_|refine gA ?_|refine gB ?_|refine VIf.dec (fun h=>?_) (fun h=>?_)|refine gC ?_|refine gD ?_|refine VIf.mk (fun h=>?_) (fun h=>?_)|refine gO ?_|refine gP ?_|refine VNat.mk _ rfl ?_|refine gV ?_|refine vret_pf rfl ?_|refine vret_take rfl rfl ?_|refine vcall_pf hc0 rfl rfl ?_|refine gK ?_)
    all_goals (try (conv=>whnf))
    refine VRes.mk _ (sshr rfl (by omega)) ?_
    repeat' ((conv=>whnf);first|refine gT ?_|refine gF ?_|refine VIf.not ?_|refine gA ?_|refine gB ?_|refine VIf.dec (fun h=>?_) (fun h=>?_)|refine gC ?_|refine gD ?_|refine VIf.mk (fun h=>?_) (fun h=>?_)|refine gO ?_|refine gP ?_|refine VNat.mk _ rfl ?_|refine gV ?_|refine vret_pf rfl ?_|refine vret_take rfl rfl ?_|refine gK ?_)
    all_goals (try (conv=>whnf))
    refine VRes.mk _ (sand1 (shr_ge hz0) (shr_lt hz0 hz1)) ?_
    repeat' ((conv=>whnf);first|refine gT ?_|refine gF ?_|refine VIf.not ?_|refine gA ?_|refine gB ?_|refine VIf.dec (fun h=>?_) (fun h=>?_)|refine gC ?_|refine gD ?_|refine VIf.mk (fun h=>?_) (fun h=>?_)|refine gO ?_|refine gP ?_|refine VNat.mk _ rfl ?_|refine gV ?_|refine vret_pf rfl ?_|refine vret_take rfl rfl ?_|refine gK ?_)
    all_goals (try (conv=>whnf))
    · rw [paramF_1 (by assumption)]
      rfl
    · rw [paramF_0 (by assumption)]
      rfl
set_option maxHeartbeats 1000000 in
set_option maxRecDepth 100000 in
theorem formed_can (l:Lv):∀ v,LvP l v→∀ (z:Int),allF l 4=true→sizeL l ≤ 100000→0 ≤ z→z < 16→Pf C1 152 [v,iv z] [fmV (formF l z)]:=by
  induction l using Lv.ind with
  |_ k nn ls ih =>
  intro v h z hall hsz hz0 hz1
  obtain ⟨_,_,_,b,zz,xs,⟨rfl,rfl,rfl⟩,rfl,hz,hxs,hlen,hbd⟩:=h.open
  have hc:=constant_can nn
  have hc0:=constant_can 0
  by_cases h2:k=2
  · subst h2
    obtain ⟨h0,h4⟩:=all_param hall rfl
    obtain ⟨q,rfl⟩:=Int.eq_ofNat_of_zero_le h0
    rw [formF_2]
    exact formedP_can q (by omega) zz b xs z hz hz0 hz1
  refine run_intro Tryz.func152 rfl rfl rfl ?_
  repeat' ((conv=>whnf);first|refine gT ?_|refine gF ?_|refine VIf.not ?_|refine gA ?_|refine gB ?_|refine VIf.dec (fun h=>?_) (fun h=>?_)|refine gC ?_|refine gD ?_|refine VIf.mk (fun h=>?_) (fun h=>?_)|refine gO ?_|refine gP ?_|refine VNat.mk _ rfl ?_|refine gV ?_|refine vret_pf rfl ?_|refine vret_take rfl rfl ?_|refine vcall_pf hc rfl rfl ?_|refine vcall_pf hc0 rfl rfl ?_|refine gK ?_)
  all_goals (try (conv=>whnf))
  · subst h
    rw [formF_1]
    rfl
  · have hk3:k=3:=h
    obtain ⟨x,rfl⟩:=all_succ hall h
    have hax:=all_arg hall (i:=0) rfl
    have hsx:=size_arg hsz (i:=0) rfl
    obtain ⟨v,hv,hl⟩:=hxs.at (i:=0) rfl
    have hr:=ih x (by simp) v hl z hax hsx hz0 hz1
    have hra:=raise_can (formF x z) (fm_ok (formF_ok _ z hax) hsx)
    obtain ⟨k1,n1,l1,b1,z1,x1,rfl,rfl,hz1',hxs1,hlen1,hbd1⟩:=hl.open
    refine VIdx.mk _ hv (VOk.mk (szOk_of rfl hz) ?_)
    repeat' ((conv=>whnf);first|refine gT ?_|refine gF ?_|refine VIf.not ?_|refine gA ?_|refine gB ?_|refine VIf.dec (fun h=>?_) (fun h=>?_)|refine gC ?_|refine gD ?_|refine VIf.mk (fun h=>?_) (fun h=>?_)|refine gO ?_|refine gP ?_|refine VNat.mk _ rfl ?_|refine gV ?_|refine vret_pf rfl ?_|refine vret_take rfl rfl ?_|refine vcall_pf hr rfl rfl ?_|refine vcall_pf hra rfl rfl ?_|refine gK ?_)
    all_goals (try (conv=>whnf))
    subst hk3
    rw [formF_mk1]
    rfl
  · have hk3:¬ k=3:=h
    have k2:¬ k=2:=h2
    have k1:¬ k=1:=by assumption
    obtain ⟨x,y,rfl⟩:=all_two hall k1 k2 h
    have hax:=all_arg hall (i:=0) rfl
    have hsx:=size_arg hsz (i:=0) rfl
    have hay:=all_arg hall (i:=1) rfl
    have hsy:=size_arg hsz (i:=1) rfl
    obtain ⟨v,hv,hl⟩:=hxs.at (i:=0) rfl
    obtain ⟨w,hw,hm⟩:=hxs.at (i:=1) rfl
    have hrx:=ih x (by simp) v hl z hax hsx hz0 hz1
    have hry:=ih y (by simp) w hm z hay hsy hz0 hz1
    have hzr:=zero_can (formF y z)
    have hj:=joinF_can (formF x z) (formF y z)
    obtain ⟨k1',n1,l1,b1,z1,x1,rfl,rfl,hz1',hxs1,hlen1,hbd1⟩:=hl.open
    obtain ⟨k2',n2,l2,b2,z2,x2,rfl,rfl,hz2',hxs2,hlen2,hbd2⟩:=hm.open
    refine VIdx.mk _ hw (VOk.mk (szOk_of rfl hz) ?_)
    repeat' ((conv=>whnf);first|refine gT ?_|refine gF ?_|refine VIf.not ?_|refine gA ?_|refine gB ?_|refine VIf.dec (fun h=>?_) (fun h=>?_)|refine gC ?_|refine gD ?_|refine VIf.mk (fun h=>?_) (fun h=>?_)|refine gO ?_|refine gP ?_|refine VNat.mk _ rfl ?_|refine gV ?_|refine vret_pf rfl ?_|refine vret_take rfl rfl ?_|refine vcall_pf hry rfl rfl ?_|refine vcall_pf hzr rfl rfl ?_|refine gK ?_)
    all_goals (try (conv=>whnf))
    · rename_i h5
      rw [formF_mk2 k1 k2 hk3,if_pos ⟨h5,by assumption⟩]
      rfl
    · refine VIdx.mk _ hv (VOk.mk (szOk_of rfl hz) ?_)
      repeat' ((conv=>whnf);first|refine gT ?_|refine gF ?_|refine VIf.not ?_|refine gA ?_|refine gB ?_|refine VIf.dec (fun h=>?_) (fun h=>?_)|refine gC ?_|refine gD ?_|refine VIf.mk (fun h=>?_) (fun h=>?_)|refine gO ?_|refine gP ?_|refine VNat.mk _ rfl ?_|refine gV ?_|refine vret_pf rfl ?_|refine vret_take rfl rfl ?_|refine vcall_pf hrx rfl rfl ?_|refine finds_pf hrx (fun _=>?_)|refine vcall_pf hj rfl rfl ?_|refine finds_pf hj (fun _=>?_)|refine gK ?_)
      all_goals (try (conv=>whnf))
      rw [formF_mk2 k1 k2 hk3,if_neg (fun e=>by simp_all)]
      rfl
    · refine VIdx.mk _ hv (VOk.mk (szOk_of rfl hz) ?_)
      repeat' ((conv=>whnf);first|refine gT ?_|refine gF ?_|refine VIf.not ?_|refine gA ?_|refine gB ?_|refine VIf.dec (fun h=>?_) (fun h=>?_)|refine gC ?_|refine gD ?_|refine VIf.mk (fun h=>?_) (fun h=>?_)|refine gO ?_|refine gP ?_|refine VNat.mk _ rfl ?_|refine gV ?_|refine vret_pf rfl ?_|refine vret_take rfl rfl ?_|refine vcall_pf hrx rfl rfl ?_|refine finds_pf hrx (fun _=>?_)|refine vcall_pf hj rfl rfl ?_|refine finds_pf hj (fun _=>?_)|refine gK ?_)
      all_goals (try (conv=>whnf))
      rw [formF_mk2 k1 k2 hk3,if_neg (fun e=>by simp_all)]
      rfl
set_option maxHeartbeats 1000000 in
set_option maxRecDepth 100000 in
theorem leq_can (x y:Lv) (v w:PV) (hx:LvP x v) (hy:LvP y w):Pf C1 110 [v,w] [bv (leqF x y)]:=by
  have h1:=right_can x v hx 4
  have h2:=right_can y w hy 4
  have hfx:=formed_can x v hx
  have hfy:=formed_can y w hy
  obtain ⟨k,n,ls,b,z,xs,hxe,rfl,hz,hxs,hlen,hbd⟩:=hx.open
  obtain ⟨k',n',ls',b',z',xs',hye,rfl,hz',hxs',hlen',hbd'⟩:=hy.open
  refine run_intro Tryz.func110 rfl rfl rfl ?_
  repeat' ((conv=>whnf);first|refine gT ?_|refine gF ?_|refine VIf.not ?_|refine gA ?_|refine gB ?_|refine VIf.dec (fun h=>?_) (fun h=>?_)|refine gC ?_|refine gD ?_|refine VIf.mk (fun h=>?_) (fun h=>?_)|refine gO ?_|refine gP ?_|refine VNat.mk _ rfl ?_|refine gV ?_|refine vret_pf rfl ?_|refine vret_take rfl rfl ?_|refine vcall_pf h1 rfl rfl ?_|refine vcall_pf h2 rfl rfl ?_|refine gK ?_)
  all_goals (try (conv=>whnf))
  · refine loop_over (G:=Nat) (fun i=>[(14,iv i)]) (fun i=>_) (fun i=>i ≤ 16∧leqTo x y i=true) (fun i=>16 - i) 0 ⟨by omega,rfl⟩ rfl rfl ?_
    rintro i ⟨hi,ht⟩
    have e2:rightF y 4=true:=h
    rename_i e1
    have hf:=fun (h:i < 16)=>hfx i (right_all e1) (right_size e1) (by omega) (by omega)
    have hg:=fun (h:i < 16)=>hfy i (right_all e2) (right_size e2) (by omega) (by omega)
    have hb:=below_can (formF x i) (formF y i) (fm_ok (formF_ok _ i (right_all e2)) (right_size e2))
    repeat' ((conv=>whnf);first|refine gT ?_|refine gF ?_|refine VIf.not ?_|refine gA ?_|refine gB ?_|refine VIf.dec (fun h=>?_) (fun h=>?_)|refine gC ?_|refine gD ?_|refine VIf.mk (fun h=>?_) (fun h=>?_)|refine gO ?_|refine gP ?_|refine VNat.mk _ rfl ?_|refine gV ?_|refine vret_pf rfl ?_|refine vret_take rfl rfl ?_|refine vcall_pf (hf (by omega)) rfl rfl ?_|refine vcall_pf (hg (by omega)) rfl rfl ?_|refine finds_pf (hf (by omega)) (fun _=>?_)|refine finds_pf (hg (by omega)) (fun _=>?_)|refine vcall_pf hb rfl rfl ?_|refine finds_pf hb (fun _=>?_)|refine gK ?_)
    all_goals (try (conv=>whnf))
    · have hb1:=h
      refine VAgain.mk _ rfl _ (gc_take rfl rfl rfl) ⟨i + 1,⟨by omega,?_⟩,by omega,rfl⟩
      simp [leqTo,ht,hb1]
    · have hb1:=h
      rw [leqF,e1,e2,leqTo_false (i:=i) (by omega) hb1]
      rfl
    · have hb1:=h
      obtain rfl:i=16:=by omega
      rw [leqF,e1,e2,ht]
      rfl
  · simp_all [leqF]
  · simp_all [leqF]
set_option maxRecDepth 100000 in
theorem num_can (k:Int):Pf C1 111 [iv k] [.ag [iv 1,iv k,.sl true 0 []]]:=by
  refine run_intro Tryz.func111 rfl rfl rfl ?_
  repeat' ((conv=>whnf);first|refine gT ?_|refine gF ?_|refine VIf.not ?_|refine gA ?_|refine gB ?_|refine VIf.dec (fun h=>?_) (fun h=>?_)|refine gC ?_|refine gD ?_|refine VIf.mk (fun h=>?_) (fun h=>?_)|refine gO ?_|refine gP ?_|refine VNat.mk _ rfl ?_|refine gV ?_|refine vret_pf rfl ?_|refine vret_take rfl rfl ?_|refine gK ?_)
  all_goals (try (conv=>whnf))
  rfl
set_option maxHeartbeats 1000000 in
set_option maxRecDepth 100000 in
theorem never_can (x:Lv) (v:PV) (hx:LvP x v):Pf C1 66 [v] [bv (leqF (.mk 1 1 []) x)]:=by
  have h1:=leq_can (.mk 1 1 []) x (.ag [iv 1,iv 1,.sl true 0 []]) v ⟨true,0,[],rfl,.inr rfl,by simp [LvsP],by simp⟩ hx
  have hn:=num_can 1
  obtain ⟨k,n,ls,b,z,xs,hxe,rfl,hz,hxs,hlen,hbd⟩:=hx.open
  refine run_intro Tryz.func66 rfl rfl rfl ?_
  repeat' ((conv=>whnf);first|refine gT ?_|refine gF ?_|refine VIf.not ?_|refine gA ?_|refine gB ?_|refine VIf.dec (fun h=>?_) (fun h=>?_)|refine gC ?_|refine gD ?_|refine VIf.mk (fun h=>?_) (fun h=>?_)|refine gO ?_|refine gP ?_|refine VNat.mk _ rfl ?_|refine gV ?_|refine vret_pf rfl ?_|refine vret_take rfl rfl ?_|refine vcall_pf h1 rfl rfl ?_|refine vcall_pf hn rfl rfl ?_|refine finds_pf h1 (fun _=>?_)|refine finds_pf hn (fun _=>?_)|refine gK ?_)
  all_goals (try (conv=>whnf))
  rfl
end Go.Proofs.YtehhihdahalfeaaGreatDoor

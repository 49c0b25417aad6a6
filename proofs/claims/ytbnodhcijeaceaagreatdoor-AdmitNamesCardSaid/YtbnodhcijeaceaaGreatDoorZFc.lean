/- Equality of structs of whole numbers and rows of them, in the plain machine. Plain lemmas, no statement of the seat. -/
import Derived.Test.YtbnodhcijeaceaaGreatDoorZTe
set_option linter.all false
set_option maxHeartbeats 1000000
set_option maxRecDepth 100000
namespace Go.Proofs.YtbnodhcijeaceaaGreatDoor
open Go Go.Am Go.Gw
variable{cs:Array Value}{f:Fm}{a0 a1 a2 a3 a4 b0 b1 b2 b3 b4 nn z:Int}{k:IntKind}{ls:List Lv}{d n q:Nat}{x y:Operand}{P:Program}{T e:TypeId}{i:TypeInfo}
theorem qb{α β:Type}{f:α→Sem β}{s:Sem α}{a:α}(h:qrun P s=some a):qrun P (s >>= f)=qrun P (f a):=j4a h
theorem jsG:qrun P program=some P:=rfl
theorem jtF(h:P.info? T=some i):qrun P (sizeOf T)=some i.size:=by
 unfold sizeOf typeInfo;simp[bind,Sem.bind,qrun,program,h];rfl
theorem jsF(h:P.underlying T=some (.int k)):qrun P (isAgg T)=some false:=by
 unfold isAgg;rw[qb (j1t h)];rfl
theorem jqr(h:P.underlying T=some (.array n e)):qrun P (isAgg T)=some true:=by
 unfold isAgg;rw[qb (j1t h)];rfl
theorem jbE{v:Value}(h:P.underlying T=some (.int k))(hv:cs[q]?=some v):qrun P (part T cs q)=some v:=by
 unfold part;rw[qb (jsF h)];simp[hv,qrun,pure]
theorem jgF(h:P.underlying T=some (.array n e))(hi:P.info? T=some i):qrun P (part T cs q)=some (.agg (cs.extract q (q+i.size))):=by
 unfold part;rw[qb (jqr h)];simp only[if_true];rw[qb (jtF hi)];rfl
theorem jok{k':IntKind}{a b:Int}(h:P.underlying T=some (.int k')):qrun P (Op.equalIn (d+1) T (.int k a) (.int k b))=some (a == b):=by
 simp only[Op.equalIn];rw[qb (j1t h)];simp[qrun,pure]
theorem jqt(h:P.underlying T=some (.array 4 e))(he:P.underlying e=some (.int k))(hi:P.info? e=some i)(h1:i.size=1):
  qrun P (Op.equalIn (d+2) T (.agg #[.int .i64 a0,.int .i64 a1,.int .i64 a2,.int .i64 a3]) (.agg #[.int .i64 b0,.int .i64 b1,.int .i64 b2,.int .i64 b3]))=some (decide (a0=b0)&&(decide (a1=b1)&&(decide (a2=b2)&&decide (a3=b3)))):=by
 rw[Op.equalIn];rw[qb (j1t h)];simp only[Std.Legacy.Range.forIn_eq_forIn_range',Std.Legacy.Range.size,Nat.sub_zero,Nat.add_one_sub_one,Nat.div_one];rw[qb (jtF hi),h1];have hr:List.range' 0 4=[0,1,2,3]:=rfl;simp only[hr,List.forIn_cons,List.forIn_nil,Nat.mul_one];have p:∀(cs:Array Value) (q:Nat) (v:Value),cs[q]?=some v→qrun P (part e cs q)=some v:=fun cs q v hv=>jbE he hv
 have q:∀(x y:Int),qrun P (Op.equalIn (d+1) e (.int .i64 x) (.int .i64 y))=some (x == y):=fun x y=>jok he
 have A0:=p #[.int .i64 a0,.int .i64 a1,.int .i64 a2,.int .i64 a3] 0 (.int .i64 a0) rfl;have A1:=p #[.int .i64 a0,.int .i64 a1,.int .i64 a2,.int .i64 a3] 1 (.int .i64 a1) rfl;have A2:=p #[.int .i64 a0,.int .i64 a1,.int .i64 a2,.int .i64 a3] 2 (.int .i64 a2) rfl;have A3:=p #[.int .i64 a0,.int .i64 a1,.int .i64 a2,.int .i64 a3] 3 (.int .i64 a3) rfl;have B0:=p #[.int .i64 b0,.int .i64 b1,.int .i64 b2,.int .i64 b3] 0 (.int .i64 b0) rfl;have B1:=p #[.int .i64 b0,.int .i64 b1,.int .i64 b2,.int .i64 b3] 1 (.int .i64 b1) rfl;have B2:=p #[.int .i64 b0,.int .i64 b1,.int .i64 b2,.int .i64 b3] 2 (.int .i64 b2) rfl;have B3:=p #[.int .i64 b0,.int .i64 b1,.int .i64 b2,.int .i64 b3] 3 (.int .i64 b3) rfl;have hp:∀{α β:Type}(a:α) (f:α→Sem β),(Pure.pure a >>= f:Sem β)=f a:=fun _ _=>rfl
 simp only[bind_assoc,qb A0,qb B0,qb (q _ _)]
 by_cases k0:a0=b0
 ·subst k0;simp only[beq_self_eq_true,Bool.not_true,Bool.false_eq_true,if_false,hp,bind_assoc,qb A1,qb B1,qb (q _ _),decide_true,Bool.true_and]
  by_cases k1:a1=b1
  ·subst k1;simp only[beq_self_eq_true,Bool.not_true,Bool.false_eq_true,if_false,hp,bind_assoc,qb A2,qb B2,qb (q _ _),decide_true,Bool.true_and]
   by_cases k2:a2=b2
   ·subst k2;simp only[beq_self_eq_true,Bool.not_true,Bool.false_eq_true,if_false,hp,bind_assoc,qb A3,qb B3,qb (q _ _),decide_true,Bool.true_and]
    by_cases k3:a3=b3
    ·subst k3;simp only[beq_self_eq_true,Bool.not_true,Bool.false_eq_true,if_false,hp,decide_true];rfl
    ·simp only[beq_eq_false_iff_ne.mpr k3,Bool.not_false,if_true,hp,decide_eq_false k3];rfl
   ·simp only[beq_eq_false_iff_ne.mpr k2,Bool.not_false,if_true,hp,decide_eq_false k2,Bool.false_and];rfl
  ·simp only[beq_eq_false_iff_ne.mpr k1,Bool.not_false,if_true,hp,decide_eq_false k1,Bool.false_and];rfl
 ·simp only[beq_eq_false_iff_ne.mpr k0,Bool.not_false,if_true,hp,decide_eq_false k0,Bool.false_and];rfl
theorem jol:C1.P.underlying 187=some (.struct (C1.P.fieldsOf 187)):=by kernel_rfl
theorem jgE:(C1.P.fieldsOf 187).toList.map (fun f=>(f.name,f.type,f.offset))=[("num",3,0),("off",185,1)]:=by kernel_rfl
theorem jlt:C1.P.stoodInHeld 187=false:=by kernel_rfl
theorem ji8:C1.P.eqGuardType C1.P.depth 187=false:=by kernel_rfl
theorem jqv:∃i,C1.P.info? 3=some i∧i.size=1:=by
 have h:(C1.P.info? 3).map (·.size)=some 1:=by kernel_rfl
 cases e:C1.P.info? 3 with
 |none=>rw[e] at h;cases h
 |some i=>rw[e] at h;exact⟨i,rfl,by simpa using h⟩
theorem jqs:∃i,C1.P.info? 185=some i∧i.size=4:=by
 have h:(C1.P.info? 185).map (·.size)=some 4:=by kernel_rfl
 cases e:C1.P.info? 185 with
 |none=>rw[e] at h;cases h
 |some i=>rw[e] at h;exact⟨i,rfl,by simpa using h⟩
theorem jam:C1.P.underlying 3=some (.int .i64):=by kernel_rfl
theorem jeN:C1.P.underlying 185=some (.array 4 3):=by kernel_rfl
def fiv(a0 a1 a2 a3 a4:Int):Array Value:=#[.int .i64 a0,.int .i64 a1,.int .i64 a2,.int .i64 a3,.int .i64 a4]
theorem jqu :
  qrun C1.P (Op.equalIn (d+3) 187 (.agg (fiv a0 a1 a2 a3 a4)) (.agg (fiv b0 b1 b2 b3 b4)))=some (decide (a0=b0)&&(decide (a1=b1)&&(decide (a2=b2)&&(decide (a3=b3)&&decide (a4=b4))))):=by
 obtain⟨i,hi,hs⟩:=jqv;obtain⟨j,hj,hs4⟩:=jqs
 obtain⟨f1,f2,hfl,h1,h2,h3,h4,h5,h6⟩:∃f1 f2:Field,(C1.P.fieldsOf 187).toList=[f1,f2]∧f1.name = "num"∧f1.type=3∧f1.offset=0∧f2.name = "off"∧f2.type=185∧f2.offset=1:=by
  have h:=jgE;match hq:(C1.P.fieldsOf 187).toList with
  |[]=>rw[hq] at h;simp at h
  |[_]=>rw[hq] at h;simp at h
  |[f1,f2]=>rw[hq] at h;simp at h;exact⟨f1,f2,rfl,h.1.1,h.1.2.1,h.1.2.2,h.2.1,h.2.2.1,h.2.2.2⟩
  |_::_::_::_=>rw[hq] at h;simp at h
 rw[Op.equalIn];rw[qb (j1t jol)];have hp:∀{α β:Type}(a:α) (f:α→Sem β),(Pure.pure a >>= f:Sem β)=f a:=fun _ _=>rfl
 simp only[];rw[qb jsG];simp only[jlt,Bool.false_eq_true,if_false];rw[←Array.forIn_toList,hfl]
 simp only[List.forIn_cons,List.forIn_nil,h1,h2,h3,h4,h5,h6,ne_eq,show ¬("num" = "_") from by decide,show ¬("off" = "_") from by decide,not_false_eq_true,if_true,bind_assoc]
 have A0:qrun C1.P (part 3 (fiv a0 a1 a2 a3 a4) 0)=some (.int .i64 a0):=jbE jam rfl;have B0:qrun C1.P (part 3 (fiv b0 b1 b2 b3 b4) 0)=some (.int .i64 b0):=jbE jam rfl;have A1:qrun C1.P (part 185 (fiv a0 a1 a2 a3 a4) 1)=some (.agg #[.int .i64 a1,.int .i64 a2,.int .i64 a3,.int .i64 a4]):=by rw[jgF jeN hj,hs4];rfl
 have B1:qrun C1.P (part 185 (fiv b0 b1 b2 b3 b4) 1)=some (.agg #[.int .i64 b1,.int .i64 b2,.int .i64 b3,.int .i64 b4]):=by rw[jgF jeN hj,hs4];rfl
 rw[qb A0,qb B0,qb (jok jam)]
 by_cases k0:a0=b0
 ·subst k0;simp only[beq_self_eq_true,Bool.not_true,Bool.false_eq_true,if_false,hp,bind_assoc,decide_true,Bool.true_and];rw[qb A1,qb B1,qb (jqt jeN jam hi hs)];cases(decide (a1=b1)&&(decide (a2=b2)&&(decide (a3=b3)&&decide (a4=b4))))<;>rfl
 ·simp only[beq_eq_false_iff_ne.mpr k0,Bool.not_false,if_true,hp,decide_eq_false k0,Bool.false_and];rfl
theorem jum :
  j0j C1.P .eql 187 x y (.ag [iv a0,iv a1,iv a2,iv a3,iv a4]) (.ag [iv b0,iv b1,iv b2,iv b3,iv b4])=some (bv (decide (a0=b0)&&(decide (a1=b1)&&(decide (a2=b2)&&(decide (a3=b3)&&decide (a4=b4)))))):=by
 show(qrun C1.P (do eqGuard .eql 187 x y (.agg (fiv a0 a1 a2 a3 a4)) (.agg (fiv b0 b1 b2 b3 b4));binOp .eql 187 (.agg (fiv a0 a1 a2 a3 a4)) (.agg (fiv b0 b1 b2 b3 b4)))).bind j6s=_
 have h1:qrun C1.P (eqGuard .eql 187 x y (.agg (fiv a0 a1 a2 a3 a4)) (.agg (fiv b0 b1 b2 b3 b4)))=some ():=by
  simp only[eqGuard,Bool.not_true,Bool.false_eq_true,if_false];rw[qb jsG,qb jsG];simp[ji8,qrun,pure]
 rw[qb h1];have h2:qrun C1.P (binOp .eql 187 (.agg (fiv a0 a1 a2 a3 a4)) (.agg (fiv b0 b1 b2 b3 b4)))=some (.bool (decide (a0=b0)&&(decide (a1=b1)&&(decide (a2=b2)&&(decide (a3=b3)&&decide (a4=b4)))))):=by
  simp only[binOp,Op.equal,Op.maxDepth];rw[qb (jqu (d:=9997))];rfl
 rw[h2];rfl
open Go Go.Am Go.Gw
def fmC(f:Fm):List PV:=[iv f.num,iv (f.off 0),iv (f.off 1),iv (f.off 2),iv (f.off 3)]
def fmV(f:Fm):PV:=.ag (fmC f)
theorem j4i(n:Int):Pf C1 223 [iv n] [fmV (j2c n)]:=by
 refine j00 Tryz.func223 rfl rfl rfl ?_;repeat'(refine gU ?_)<;>conv=>whnf
 refine j03 (G:=Nat) (fun i=>[(7,iv i)]) (fun i=>[.box 187 [iv 0,iv 0,iv 0,iv 0,iv 0],.box 187 [iv n,iv (if 0<i then -1 else 0),iv (if 1<i then -1 else 0),iv (if 2<i then -1 else 0),iv (if 3<i then -1 else 0)]]) (fun i=>i≤4) (fun i=>4-i) 0 (by omega) rfl rfl ?_
 intro i hi;match i,hi with
 |0,_=>
  repeat'(refine gU ?_)<;>conv=>whnf
  exact VAgain.mk _ rfl _ (j0a rfl rfl rfl) ⟨1,by omega,by omega,rfl⟩
 |1,_=>
  repeat'(refine gU ?_)<;>conv=>whnf
  exact VAgain.mk _ rfl _ (j0a rfl rfl rfl) ⟨2,by omega,by omega,rfl⟩
 |2,_=>
  repeat'(refine gU ?_)<;>conv=>whnf
  exact VAgain.mk _ rfl _ (j0a rfl rfl rfl) ⟨3,by omega,by omega,rfl⟩
 |3,_=>
  repeat'(refine gU ?_)<;>conv=>whnf
  exact VAgain.mk _ rfl _ (j0a rfl rfl rfl) ⟨4,by omega,by omega,rfl⟩
 |4,_=>
  repeat'(refine gU ?_)<;>conv=>whnf
  rfl
 |n+5,h=>exact absurd h (by omega)
theorem jr4(f:Fm):Pf C1 225 [fmV f] [bv (jt0 f)]:=by
 have hc:=j4i 0;refine j00 Tryz.func225 rfl rfl rfl ?_;repeat'(first|refine gU ?_|refine j01 hc fun _=>?_|apply gK)<;>conv=>whnf
 refine VRes.mk _ (jum (a0:=f.num) (a1:=f.off 0) (a2:=f.off 1) (a3:=f.off 2) (a4:=f.off 3) (b0:=0) (b1:=-1) (b2:=-1) (b3:=-1) (b4:=-1)) ?_;repeat'(refine gU ?_)<;>conv=>whnf
 rfl
theorem j5C{x:Int}(h:¬x = -1):rise x=x+1:=if_neg h
theorem j5D{x:Int}(h:x = -1):rise x=x:=by simp[rise,h]
theorem jom(f:Fm)(hf:f.ok 1000000):Pf C1 224 [fmV f] [fmV (jbF f)]:=by
 obtain⟨⟨h0,h1⟩,h2⟩:=hf;have k0:=h2 0;have k1:=h2 1;have k2:=h2 2;have k3:=h2 3;refine j00 Tryz.func224 rfl rfl rfl ?_;repeat'(first|refine gU ?_|apply gE<;>intro h)<;>conv=>whnf
 ·refine j03 (G:=Nat) (fun i=>[(14,iv i)]) (fun i=>[.box 187 [iv f.num,iv (if 0<i then rise (f.off 0) else f.off 0),iv (if 1<i then rise (f.off 1) else f.off 1),iv (if 2<i then rise (f.off 2) else f.off 2),iv (if 3<i then rise (f.off 3) else f.off 3)],.box 187 [iv 0,iv 0,iv 0,iv 0,iv 0]]) (fun i=>i≤4) (fun i=>4-i) 0 (by omega) rfl rfl ?_
  intro i hi;match i,hi with
  |0,_=>
   repeat'(refine gU ?_)<;>conv=>whnf
   refine VRes.mk (iv (f.off 0)) rfl ?_;repeat'(first|refine gU ?_|apply gE<;>intro h)<;>conv=>whnf
   ·exact VAgain.mk _ rfl _ (j0a rfl rfl rfl) ⟨1,by omega,by omega,by rw[j5D (x:=f.off 0) (by assumption)];rfl⟩
   ·exact VAgain.mk _ rfl _ (j0a rfl rfl rfl) ⟨1,by omega,by omega,by rw[j5C (x:=f.off 0) (by assumption)];rfl⟩
  |1,_=>
   repeat'(refine gU ?_)<;>conv=>whnf
   refine VRes.mk (iv (f.off 1)) rfl ?_;repeat'(first|refine gU ?_|apply gE<;>intro h)<;>conv=>whnf
   ·exact VAgain.mk _ rfl _ (j0a rfl rfl rfl) ⟨2,by omega,by omega,by rw[j5D (x:=f.off 1) (by assumption)];rfl⟩
   ·exact VAgain.mk _ rfl _ (j0a rfl rfl rfl) ⟨2,by omega,by omega,by rw[j5C (x:=f.off 1) (by assumption)];rfl⟩
  |2,_=>
   repeat'(refine gU ?_)<;>conv=>whnf
   refine VRes.mk (iv (f.off 2)) rfl ?_;repeat'(first|refine gU ?_|apply gE<;>intro h)<;>conv=>whnf
   ·exact VAgain.mk _ rfl _ (j0a rfl rfl rfl) ⟨3,by omega,by omega,by rw[j5D (x:=f.off 2) (by assumption)];rfl⟩
   ·exact VAgain.mk _ rfl _ (j0a rfl rfl rfl) ⟨3,by omega,by omega,by rw[j5C (x:=f.off 2) (by assumption)];rfl⟩
  |3,_=>
   repeat'(refine gU ?_)<;>conv=>whnf
   refine VRes.mk (iv (f.off 3)) rfl ?_;repeat'(first|refine gU ?_|apply gE<;>intro h)<;>conv=>whnf
   ·exact VAgain.mk _ rfl _ (j0a rfl rfl rfl) ⟨4,by omega,by omega,by rw[j5D (x:=f.off 3) (by assumption)];rfl⟩
   ·exact VAgain.mk _ rfl _ (j0a rfl rfl rfl) ⟨4,by omega,by omega,by rw[j5C (x:=f.off 3) (by assumption)];rfl⟩
  |4,_=>
   repeat'(refine gU ?_)<;>conv=>whnf
   unfold jbF;rw[j5D (x:=f.num) (by assumption)]
   rfl
  |n+5,h=>exact absurd h (by omega)
 ·refine j03 (G:=Nat) (fun i=>[(14,iv i)]) (fun i=>[.box 187 [iv (f.num+1),iv (if 0<i then rise (f.off 0) else f.off 0),iv (if 1<i then rise (f.off 1) else f.off 1),iv (if 2<i then rise (f.off 2) else f.off 2),iv (if 3<i then rise (f.off 3) else f.off 3)],.box 187 [iv 0,iv 0,iv 0,iv 0,iv 0]]) (fun i=>i≤4) (fun i=>4-i) 0 (by omega) rfl rfl ?_
  intro i hi;match i,hi with
  |0,_=>
   repeat'(refine gU ?_)<;>conv=>whnf
   refine VRes.mk (iv (f.off 0)) rfl ?_;repeat'(first|refine gU ?_|apply gE<;>intro h)<;>conv=>whnf
   ·exact VAgain.mk _ rfl _ (j0a rfl rfl rfl) ⟨1,by omega,by omega,by rw[j5D (x:=f.off 0) (by assumption)];rfl⟩
   ·exact VAgain.mk _ rfl _ (j0a rfl rfl rfl) ⟨1,by omega,by omega,by rw[j5C (x:=f.off 0) (by assumption)];rfl⟩
  |1,_=>
   repeat'(refine gU ?_)<;>conv=>whnf
   refine VRes.mk (iv (f.off 1)) rfl ?_;repeat'(first|refine gU ?_|apply gE<;>intro h)<;>conv=>whnf
   ·exact VAgain.mk _ rfl _ (j0a rfl rfl rfl) ⟨2,by omega,by omega,by rw[j5D (x:=f.off 1) (by assumption)];rfl⟩
   ·exact VAgain.mk _ rfl _ (j0a rfl rfl rfl) ⟨2,by omega,by omega,by rw[j5C (x:=f.off 1) (by assumption)];rfl⟩
  |2,_=>
   repeat'(refine gU ?_)<;>conv=>whnf
   refine VRes.mk (iv (f.off 2)) rfl ?_;repeat'(first|refine gU ?_|apply gE<;>intro h)<;>conv=>whnf
   ·exact VAgain.mk _ rfl _ (j0a rfl rfl rfl) ⟨3,by omega,by omega,by rw[j5D (x:=f.off 2) (by assumption)];rfl⟩
   ·exact VAgain.mk _ rfl _ (j0a rfl rfl rfl) ⟨3,by omega,by omega,by rw[j5C (x:=f.off 2) (by assumption)];rfl⟩
  |3,_=>
   repeat'(refine gU ?_)<;>conv=>whnf
   refine VRes.mk (iv (f.off 3)) rfl ?_;repeat'(first|refine gU ?_|apply gE<;>intro h)<;>conv=>whnf
   ·exact VAgain.mk _ rfl _ (j0a rfl rfl rfl) ⟨4,by omega,by omega,by rw[j5D (x:=f.off 3) (by assumption)];rfl⟩
   ·exact VAgain.mk _ rfl _ (j0a rfl rfl rfl) ⟨4,by omega,by omega,by rw[j5C (x:=f.off 3) (by assumption)];rfl⟩
  |4,_=>
   repeat'(refine gU ?_)<;>conv=>whnf
   unfold jbF;rw[j5C (x:=f.num) (by assumption)]
   rfl
  |n+5,h=>exact absurd h (by omega)
def mx(x y:Int):Int:=if y>x then y else x
theorem jrs(x y:Int):mx x y=max x y:=by unfold mx;split<;>omega
theorem jst(f g:Fm):(jco f g:Fm)=⟨mx f.num g.num,fun j=>mx (f.off j) (g.off j)⟩:=by simp only[jrs];rfl
theorem jnI(f g:Fm):Pf C1 226 [fmV f,fmV g] [fmV (jco f g)]:=by
 rw[jst];refine j00 Tryz.func226 rfl rfl rfl ?_;repeat'(refine gU ?_)<;>conv=>whnf
 refine j03 (G:=Nat) (fun i=>[(15,iv i)]) (fun i=>[.box 187 [iv (mx f.num g.num),iv (if 0<i then mx (f.off 0) (g.off 0) else f.off 0),iv (if 1<i then mx (f.off 1) (g.off 1) else f.off 1),iv (if 2<i then mx (f.off 2) (g.off 2) else f.off 2),iv (if 3<i then mx (f.off 3) (g.off 3) else f.off 3)],.box 187 (fmC g),.box 187 [iv 0,iv 0,iv 0,iv 0,iv 0]]) (fun i=>i≤4) (fun i=>4-i) 0 (by omega) rfl rfl ?_
 intro i hi;match i,hi with
 |0,_=>
  repeat'(refine gU ?_)<;>conv=>whnf
  refine VRes.mk (iv (g.off 0)) rfl ?_;repeat'(refine gU ?_)<;>conv=>whnf
  exact VAgain.mk _ rfl _ (j0a rfl rfl rfl) ⟨1,by omega,by omega,rfl⟩
 |1,_=>
  repeat'(refine gU ?_)<;>conv=>whnf
  refine VRes.mk (iv (g.off 1)) rfl ?_;repeat'(refine gU ?_)<;>conv=>whnf
  exact VAgain.mk _ rfl _ (j0a rfl rfl rfl) ⟨2,by omega,by omega,rfl⟩
 |2,_=>
  repeat'(refine gU ?_)<;>conv=>whnf
  refine VRes.mk (iv (g.off 2)) rfl ?_;repeat'(refine gU ?_)<;>conv=>whnf
  exact VAgain.mk _ rfl _ (j0a rfl rfl rfl) ⟨3,by omega,by omega,rfl⟩
 |3,_=>
  repeat'(refine gU ?_)<;>conv=>whnf
  refine VRes.mk (iv (g.off 3)) rfl ?_;repeat'(refine gU ?_)<;>conv=>whnf
  exact VAgain.mk _ rfl _ (j0a rfl rfl rfl) ⟨4,by omega,by omega,rfl⟩
 |4,_=>
  repeat'(refine gU ?_)<;>conv=>whnf
  rfl
 |n+5,h=>exact absurd h (by omega)
def lst(f:Fm):Nat→Int
 |0=>f.num
 |i+1=>if f.off i = -1 then lst f i else mx (lst f i) (f.off i+1)
theorem jjp{i:Nat}(h:f.off i = -1):lst f (i+1)=lst f i:=by simp[lst,h]
theorem jjo{i:Nat}(h:¬f.off i = -1):lst f (i+1)=mx (lst f i) (f.off i+1):=by simp[lst,h]
theorem jrn(f:Fm):∀i,jbc f i=lst f i
 |0=>rfl
 |i+1=>by rw[jbc,lst,jrn f i,jrs]
theorem jnS(f:Fm)(hf:f.ok 1000000):Pf C1 227 [fmV f] [iv (jnR f)]:=by
 obtain⟨⟨h0,h1⟩,h2⟩:=hf;have k0:=h2 0;have k1:=h2 1;have k2:=h2 2;have k3:=h2 3;rw[jnR,jrn];refine j00 Tryz.func227 rfl rfl rfl ?_;all_goals try conv=>whnf
 refine j03 (G:=Nat) (fun i=>[(10,iv i),(3,iv (lst f i))]) (fun i=>[.box 187 (fmC f)]) (fun i=>i≤4) (fun i=>4-i) 0 (by omega) rfl rfl ?_
 intro i hi;match i,hi with
 |0,_=>
  repeat'(refine gU ?_)<;>conv=>whnf
  refine VRes.mk (iv (f.off 0)) rfl ?_;repeat'(first|refine gU ?_|apply gE<;>intro h)<;>conv=>whnf
  ·exact VAgain.mk _ rfl _ (j0a rfl rfl rfl) ⟨1,by omega,by omega,by rw[jjp (f:=f) (i:=0) (by assumption)];rfl⟩
  ·exact VAgain.mk _ rfl _ (j0a rfl rfl rfl) ⟨1,by omega,by omega,by rw[jjo (f:=f) (i:=0) (by assumption)];rfl⟩
 |1,_=>
  repeat'(refine gU ?_)<;>conv=>whnf
  refine VRes.mk (iv (f.off 1)) rfl ?_;repeat'(first|refine gU ?_|apply gE<;>intro h)<;>conv=>whnf
  ·exact VAgain.mk _ rfl _ (j0a rfl rfl rfl) ⟨2,by omega,by omega,by rw[jjp (f:=f) (i:=1) (by assumption)];rfl⟩
  ·exact VAgain.mk _ rfl _ (j0a rfl rfl rfl) ⟨2,by omega,by omega,by rw[jjo (f:=f) (i:=1) (by assumption)];rfl⟩
 |2,_=>
  repeat'(refine gU ?_)<;>conv=>whnf
  refine VRes.mk (iv (f.off 2)) rfl ?_;repeat'(first|refine gU ?_|apply gE<;>intro h)<;>conv=>whnf
  ·exact VAgain.mk _ rfl _ (j0a rfl rfl rfl) ⟨3,by omega,by omega,by rw[jjp (f:=f) (i:=2) (by assumption)];rfl⟩
  ·exact VAgain.mk _ rfl _ (j0a rfl rfl rfl) ⟨3,by omega,by omega,by rw[jjo (f:=f) (i:=2) (by assumption)];rfl⟩
 |3,_=>
  repeat'(refine gU ?_)<;>conv=>whnf
  refine VRes.mk (iv (f.off 3)) rfl ?_;repeat'(first|refine gU ?_|apply gE<;>intro h)<;>conv=>whnf
  ·exact VAgain.mk _ rfl _ (j0a rfl rfl rfl) ⟨4,by omega,by omega,by rw[jjp (f:=f) (i:=3) (by assumption)];rfl⟩
  ·exact VAgain.mk _ rfl _ (j0a rfl rfl rfl) ⟨4,by omega,by omega,by rw[jjo (f:=f) (i:=3) (by assumption)];rfl⟩
 |4,_=>
  repeat'(refine gU ?_)<;>conv=>whnf
 |n+5,h=>exact absurd h (by omega)
theorem jod{f g:Fm}{i:Nat}(h:¬f.off i≤g.off i):∀j,i<j→j8v f g j=false
 |0,h1=>absurd h1 (by omega)
 |j+1,h1=>by
  rw[j8v]
  by_cases e:i=j
  ·subst e;simp[h]
  ·rw[jod h j (by omega)];rfl
theorem ja8{g:Fm}{i:Nat}(hi:i<4)(h:¬f.off i≤g.off i):jcD f g=false:=by
 rw[jcD,jod h 4 hi];rfl
theorem jmq(f g:Fm)(hf:g.ok 1000000):Pf C1 172 [fmV f,fmV g] [bv (jcD f g)]:=by
 have hl:=jnS g hf;refine j00 Tryz.func172 rfl rfl rfl ?_;all_goals try conv=>whnf
 refine j03 (G:=Nat) (fun i=>[(9,iv i)]) (fun i=>[.box 187 (fmC f),.box 187 (fmC g)]) (fun i=>i≤4∧j8v f g i=true) (fun i=>4-i) 0 ⟨by omega,rfl⟩ rfl rfl ?_
 rintro i ⟨hi,ho⟩;match i,hi,ho with
 |0,_,ho=>
  repeat'(refine gU ?_)<;>conv=>whnf
  refine VRes.mk (iv (f.off 0)) rfl ?_;repeat'(first|refine gU ?_|apply gE<;>intro h)<;>conv=>whnf
  ·rw[ja8 (f:=f) (g:=g) (i:=0) (by omega) (by omega)]
  ·exact VAgain.mk _ rfl _ (j0a rfl rfl rfl) ⟨1,⟨by omega,by rw[j8v,ho];simp;omega⟩,by omega,rfl⟩
 |1,_,ho=>
  repeat'(refine gU ?_)<;>conv=>whnf
  refine VRes.mk (iv (f.off 1)) rfl ?_;repeat'(first|refine gU ?_|apply gE<;>intro h)<;>conv=>whnf
  ·rw[ja8 (f:=f) (g:=g) (i:=1) (by omega) (by omega)]
  ·exact VAgain.mk _ rfl _ (j0a rfl rfl rfl) ⟨2,⟨by omega,by rw[j8v,ho];simp;omega⟩,by omega,rfl⟩
 |2,_,ho=>
  repeat'(refine gU ?_)<;>conv=>whnf
  refine VRes.mk (iv (f.off 2)) rfl ?_;repeat'(first|refine gU ?_|apply gE<;>intro h)<;>conv=>whnf
  ·rw[ja8 (f:=f) (g:=g) (i:=2) (by omega) (by omega)]
  ·exact VAgain.mk _ rfl _ (j0a rfl rfl rfl) ⟨3,⟨by omega,by rw[j8v,ho];simp;omega⟩,by omega,rfl⟩
 |3,_,ho=>
  repeat'(refine gU ?_)<;>conv=>whnf
  refine VRes.mk (iv (f.off 3)) rfl ?_;repeat'(first|refine gU ?_|apply gE<;>intro h)<;>conv=>whnf
  ·rw[ja8 (f:=f) (g:=g) (i:=3) (by omega) (by omega)]
  ·exact VAgain.mk _ rfl _ (j0a rfl rfl rfl) ⟨4,⟨by omega,by rw[j8v,ho];simp;omega⟩,by omega,rfl⟩
 |4,_,ho=>
  repeat'(first|refine gU ?_|refine j01 hl fun _=>?_|apply gK)<;>conv=>whnf
  rw[jcD,ho,Bool.true_and]
 |n+5,h,_=>exact absurd h (by omega)
open Go Go.Am Go.Gw
theorem sshr{i j:Int}(hq:j=(q:Int))(hlt:q≤63):j0j P .shr T x y (iv i) (iv j)=some (iv (i/2^q)):=by
 have h1:¬j<0:=by omega
 have h2:min j.toNat IntKind.i64.bits=q:=by simp[IntKind.bits];omega
 have h3:i.fdiv (2^q)=i/2^q:=Int.fdiv_eq_ediv_of_nonneg i (Int.le_of_lt (Int.pow_pos (by omega)))
 simp only[j0j,j6E,eqGuard,binOp,Op.shift,if_neg h1,h2,h3];rfl
theorem jul{i:Int}(h0:0≤i)(h1:i<64):j0j P .and T x y (iv i) (iv 1)=some (iv (i%2)):=by
 have h:=jdM ⟨i.toNat,by omega⟩
 simp only[Int.toNat_of_nonneg h0] at h;have e:((i.toNat%2:Nat):Int)=i%2:=by omega
 rw[e] at h;simp only[j0j,j6E,eqGuard,binOp,ne_eq,not_true_eq_false,if_false,Op.intBits];rw[←h];rfl
theorem jql(h:z/2^q%2=0):j8w z q=⟨-1,fun j=>if(j:Int)=q then 0 else -1⟩:=by
 unfold j8w bit;rw[if_pos (by simpa using h)]
theorem jqk(h:¬z/2^q%2=0):j8w z q=j2c 0:=by
 unfold j8w bit;rw[if_neg (by simpa using h)]
theorem jsh:j2z (.mk 2 nn ls) z=j8w z nn:=by simp[j2z,j5r]
theorem jsg:j2z (.mk 1 nn ls) z=j2c nn:=by simp[j2z,j5r]
theorem jhI(q:Nat)(hq:q<4)(zz:Nat)(b:Bool)(xs:List PV)(z:Int)(hz:zz=3∨xs=[])(hz0:0≤z)(hz1:z<16):Pf C1 171 [.ag [iv 2,iv q,.sl b zz xs],iv z] [fmV (j8w z q)]:=by
 have hc0:=j4i 0;obtain rfl|rfl|rfl|rfl:q=0∨q=1∨q=2∨q=3:=by omega
 all_goals
  refine j00 Tryz.func171 rfl rfl rfl ?_;repeat'(first|refine gU ?_|refine gX hc0 ?_)<;>conv=>whnf
  refine VRes.mk _ (sshr rfl (by omega)) ?_
  all_goals try conv=>whnf
  refine VRes.mk _ (jul (jtJ hz0) (jtK hz0 hz1)) ?_;repeat'(first|refine gU ?_|apply gE<;>intro h)<;>conv=>whnf
  ·rw[jql (by assumption)]
   rfl
  ·rw[jqk (by assumption)]
   rfl
theorem jcP(l:Lv):∀v,LvP l v→∀(z:Int),allF l 4=true→j0M l≤100000→0≤z→z<16→Pf C1 171 [v,iv z] [fmV (j2z l z)]:=by
 induction l using Lv.ind with
 |_ k nn ls ih=>
 intro v h z hall hsz hz0 hz1;obtain⟨_,_,_,b,zz,xs,⟨rfl,rfl,rfl⟩,rfl,hz,hxs,hlen,hbd⟩:=h.open;have hc:=j4i nn;have hc0:=j4i 0
 by_cases h2:k=2
 ·subst h2;obtain⟨h0,h4⟩:=jmk hall rfl;obtain⟨q,rfl⟩:=Int.eq_ofNat_of_zero_le h0;rw[jsh];exact jhI q (by omega) zz b xs z hz hz0 hz1
 refine j00 Tryz.func171 rfl rfl rfl ?_;repeat'(first|refine gU ?_|apply gE<;>intro h|refine gX hc ?_)<;>conv=>whnf
 ·subst h;rw[jsg];rfl
 ·have hk3:k=3:=h;obtain⟨x,rfl⟩:=jpl hall h;have hax:=j8R hall (i:=0) rfl;have hsx:=jeV hsz (i:=0) rfl;obtain⟨v,hv,hl⟩:=hxs.at (i:=0) rfl;have hr:=ih x (by simp) v hl z hax hsx hz0 hz1
  have hra:=jom (j2z x z) (jtm (jj5 _ z hax) hsx);obtain⟨k1,n1,l1,b1,z1,x1,rfl,rfl,hz1',hxs1,hlen1,hbd1⟩:=hl.open;refine VIdx.mk _ hv (VOk.mk (j0N rfl hz) ?_);repeat'(first|refine gU ?_|refine gX hr ?_|refine gX hra ?_)<;>conv=>whnf
  subst hk3;rw[jg4];rfl
 ·have hk3:¬k=3:=h;have k2:¬k=2:=h2;have k1:¬k=1:=by assumption
  obtain⟨x,y,rfl⟩:=jrV hall k1 k2 h;have hax:=j8R hall (i:=0) rfl;have hsx:=jeV hsz (i:=0) rfl;have hay:=j8R hall (i:=1) rfl;have hsy:=jeV hsz (i:=1) rfl;obtain⟨v,hv,hl⟩:=hxs.at (i:=0) rfl;obtain⟨w,hw,hm⟩:=hxs.at (i:=1) rfl;have hrx:=ih x (by simp) v hl z hax hsx hz0 hz1
  have hry:=ih y (by simp) w hm z hay hsy hz0 hz1
  have hzr:=jr4 (j2z y z);have hj:=jnI (j2z x z) (j2z y z);obtain⟨k1',n1,l1,b1,z1,x1,rfl,rfl,hz1',hxs1,hlen1,hbd1⟩:=hl.open;obtain⟨k2',n2,l2,b2,z2,x2,rfl,rfl,hz2',hxs2,hlen2,hbd2⟩:=hm.open;refine VIdx.mk _ hw (VOk.mk (j0N rfl hz) ?_);repeat'(first|refine gU ?_|apply gE<;>intro h|apply gM<;>intro h|refine gX hry ?_|refine gX hzr ?_)<;>conv=>whnf
  ·rename_i h5;rw[j8e k1 k2 hk3,if_pos ⟨h5,by assumption⟩]
   rfl
  ·refine VIdx.mk _ hv (VOk.mk (j0N rfl hz) ?_);repeat'(first|refine gU ?_|refine j01 hrx fun _=>?_|refine j01 hj fun _=>?_|apply gK)<;>conv=>whnf
   rw[j8e k1 k2 hk3,if_neg (fun e=>by simp_all)]
   rfl
  ·refine VIdx.mk _ hv (VOk.mk (j0N rfl hz) ?_);repeat'(first|refine gU ?_|refine j01 hrx fun _=>?_|refine j01 hj fun _=>?_|apply gK)<;>conv=>whnf
   rw[j8e k1 k2 hk3,if_neg (fun e=>by simp_all)]
   rfl
theorem jer(x y:Lv)(v w:PV)(hx:LvP x v)(hy:LvP y w):Pf C1 101 [v,w] [bv (leqF x y)]:=by
 have h1:=j2D x v hx 4;have h2:=j2D y w hy 4;have hfx:=jcP x v hx;have hfy:=jcP y w hy;obtain⟨k,n,ls,b,z,xs,hxe,rfl,hz,hxs,hlen,hbd⟩:=hx.open;obtain⟨k',n',ls',b',z',xs',hye,rfl,hz',hxs',hlen',hbd'⟩:=hy.open;refine j00 Tryz.func101 rfl rfl rfl ?_;repeat'(first|refine gU ?_|apply gM<;>intro h|refine gX h1 ?_|refine gX h2 ?_)<;>conv=>whnf
 ·refine j03 (G:=Nat) (fun i=>[(14,iv i)]) (fun i=>_) (fun i=>i≤16∧jhS x y i=true) (fun i=>16-i) 0 ⟨by omega,rfl⟩ rfl rfl ?_
  rintro i ⟨hi,ht⟩;have e2:j0x y 4=true:=h;rename_i e1;have hf:=fun(h:i<16)=>hfx i (jbG e1) (j9t e1) (by omega) (by omega)
  have hg:=fun(h:i<16)=>hfy i (jbG e2) (j9t e2) (by omega) (by omega)
  have hb:=jmq (j2z x i) (j2z y i) (jtm (jj5 _ i (jbG e2)) (j9t e2));repeat'(first|refine gU ?_|apply gE<;>intro h|apply gM<;>intro h|refine j01 (hf (by omega)) fun _=>?_|refine j01 (hg (by omega)) fun _=>?_|refine j01 hb fun _=>?_|apply gK)<;>conv=>whnf
  ·have hb1:=h;refine VAgain.mk _ rfl _ (j0a rfl rfl rfl) ⟨i+1,⟨by omega,?_⟩,by omega,rfl⟩
   simp[jhS,ht,hb1]
  ·have hb1:=h;rw[leqF,e1,e2,jhT (i:=i) (by omega) hb1]
   rfl
  ·have hb1:=h;obtain rfl:i=16:=by omega
   rw[leqF,e1,e2,ht];rfl
 ·simp_all[leqF]
 ·simp_all[leqF]
theorem joc(k:Int):Pf C1 53 [iv k] [.ag [iv 1,iv k,.sl true 0 []]]:=by
 refine j00 Tryz.func53 rfl rfl rfl ?_;repeat'(refine gU ?_)<;>conv=>whnf
 rfl
end Go.Proofs.YtbnodhcijeaceaaGreatDoor

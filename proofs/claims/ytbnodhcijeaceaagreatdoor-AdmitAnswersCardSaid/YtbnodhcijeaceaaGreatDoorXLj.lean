/- Equality of structs of whole numbers and rows of them, in the plain machine. Plain lemmas, no statement of the seat. -/
import Derived.Test.YtbnodhcijeaceaaGreatDoorXUa
set_option linter.all false
set_option maxHeartbeats 1000000
set_option maxRecDepth 100000
namespace Go.Proofs.YtbnodhcijeaceaaGreatDoor
open Go Go.Am Go.Gw
variable{cs:Array Value}{f:Fm}{a0 a1 a2 a3 a4 b b0 b1 b2 b3 b4 d k kk n nn p z:Int}{ns:List (List UInt8)}{ls:List Lv}{ts:List Tm}{c s:List UInt8}{i q:Nat}{x y:Operand}{P:Program}{t:Tm}{T e:TypeId}
def qb{α β:Type}{f:α→Sem β}{s:Sem α}{a:α}(h:qrun P s=some a):qrun P (s >>= f)=qrun P (f a):=j3z h
def jtu:qrun P program=some P:=rfl
def juA{i:TypeInfo}(h:P.info? T=some i):qrun P (sizeOf T)=some i.size:=by
 unfold sizeOf typeInfo;simp[bind,Sem.bind,qrun,program,h];rfl
def jtt{k:IntKind}(h:P.underlying T=some (.int k)):qrun P (isAgg T)=some false:=by
 unfold isAgg;rw[qb (j1q h)];rfl
def jrc{n:Nat}(h:P.underlying T=some (.array n e)):qrun P (isAgg T)=some true:=by
 unfold isAgg;rw[qb (j1q h)];rfl
def jc6{k:IntKind}{v:Value}(h:P.underlying T=some (.int k))(hv:cs[q]?=some v):qrun P (part T cs q)=some v:=by
 unfold part;rw[qb (jtt h)];simp[hv,qrun,pure]
def jh0{n:Nat}{i:TypeInfo}(h:P.underlying T=some (.array n e))(hi:P.info? T=some i):qrun P (part T cs q)=some (.agg (cs.extract q (q+i.size))):=by
 unfold part;rw[qb (jrc h)];simp only[if_true];rw[qb (juA hi)];rfl
def jp8{k k':IntKind}{d:Nat}{a:Int}(h:P.underlying T=some (.int k')):qrun P (Op.equalIn (d+1) T (.int k a) (.int k b))=some (a == b):=by
 simp only[Op.equalIn];rw[qb (j1q h)];simp[qrun,pure]
def jre{k:IntKind}{i:TypeInfo}{d:Nat}(h:P.underlying T=some (.array 4 e))(he:P.underlying e=some (.int k))(hi:P.info? e=some i)(h1:i.size=1):
  qrun P (Op.equalIn (d+2) T (.agg #[.int .i64 a0,.int .i64 a1,.int .i64 a2,.int .i64 a3]) (.agg #[.int .i64 b0,.int .i64 b1,.int .i64 b2,.int .i64 b3]))=some (decide (a0=b0)&&(decide (a1=b1)&&(decide (a2=b2)&&decide (a3=b3)))):=by
 rw[Op.equalIn];rw[qb (j1q h)];simp only[Std.Legacy.Range.forIn_eq_forIn_range',Std.Legacy.Range.size,FH,Nat.add_one_sub_one,Nat.div_one];rw[qb (juA hi),h1];have hr:List.range' 0 4=[0,1,2,3]:=rfl;simp only[hr,List.forIn_cons,List.forIn_nil,FD];have p:∀(cs:Array Value) (q:Nat) (v:Value),cs[q]?=some v→qrun P (part e cs q)=some v:=fun cs q v hv=>jc6 he hv
 have q:∀(x y:Int),qrun P (Op.equalIn (d+1) e (.int .i64 x) (.int .i64 y))=some (x == y):=fun x y=>jp8 he
 have A0:=p #[.int .i64 a0,.int .i64 a1,.int .i64 a2,.int .i64 a3] 0 (.int .i64 a0) rfl;have A1:=p #[.int .i64 a0,.int .i64 a1,.int .i64 a2,.int .i64 a3] 1 (.int .i64 a1) rfl;have A2:=p #[.int .i64 a0,.int .i64 a1,.int .i64 a2,.int .i64 a3] 2 (.int .i64 a2) rfl;have A3:=p #[.int .i64 a0,.int .i64 a1,.int .i64 a2,.int .i64 a3] 3 (.int .i64 a3) rfl;have B0:=p #[.int .i64 b0,.int .i64 b1,.int .i64 b2,.int .i64 b3] 0 (.int .i64 b0) rfl;have B1:=p #[.int .i64 b0,.int .i64 b1,.int .i64 b2,.int .i64 b3] 1 (.int .i64 b1) rfl;have B2:=p #[.int .i64 b0,.int .i64 b1,.int .i64 b2,.int .i64 b3] 2 (.int .i64 b2) rfl;have B3:=p #[.int .i64 b0,.int .i64 b1,.int .i64 b2,.int .i64 b3] 3 (.int .i64 b3) rfl;have hp:∀{α β:Type}(a:α) (f:α→Sem β),(Pure.pure a >>= f:Sem β)=f a:=fun _ _=>rfl
 simp only[bind_assoc,qb A0,qb B0,qb (q _ _)]
 by_cases k0:a0=b0
 ·subst k0;simp only[beq_self_eq_true,EK,CN,if_false,hp,bind_assoc,qb A1,qb B1,qb (q _ _),decide_true,CG]
  by_cases k1:a1=b1
  ·subst k1;simp only[beq_self_eq_true,EK,CN,if_false,hp,bind_assoc,qb A2,qb B2,qb (q _ _),decide_true,CG]
   by_cases k2:a2=b2
   ·subst k2;simp only[beq_self_eq_true,EK,CN,if_false,hp,bind_assoc,qb A3,qb B3,qb (q _ _),decide_true,CG]
    by_cases k3:a3=b3
    ·subst k3;simp only[beq_self_eq_true,EK,CN,if_false,hp,decide_true];rfl
    ·simp only[beq_eq_false_iff_ne.mpr k3,DV,if_true,hp,decide_eq_false k3];rfl
   ·simp only[beq_eq_false_iff_ne.mpr k2,DV,if_true,hp,decide_eq_false k2,CV];rfl
  ·simp only[beq_eq_false_iff_ne.mpr k1,DV,if_true,hp,decide_eq_false k1,CV];rfl
 ·simp only[beq_eq_false_iff_ne.mpr k0,DV,if_true,hp,decide_eq_false k0,CV];rfl
def jp9:C1.P.underlying 187=some (.struct (C1.P.fieldsOf 187)):=by kernel_rfl
def jgZ:(C1.P.fieldsOf 187).toList.map (fun f=>(f.name,f.type,f.offset))=[("num",3,0),("off",185,1)]:=by kernel_rfl
def jm3:C1.P.stoodInHeld 187=false:=by kernel_rfl
def jiG:C1.P.eqGuardType C1.P.depth 187=false:=by kernel_rfl
def jrg:∃i,C1.P.info? 3=some i∧i.size=1:=by
 have h:(C1.P.info? 3).map (·.size)=some 1:=by kernel_rfl
 cases e:C1.P.info? 3 with
 |none=>rw[e] at h;cases h
 |some i=>rw[e] at h;exact⟨i,rfl,by simpa using h⟩
def jrd:∃i,C1.P.info? 185=some i∧i.size=4:=by
 have h:(C1.P.info? 185).map (·.size)=some 4:=by kernel_rfl
 cases e:C1.P.info? 185 with
 |none=>rw[e] at h;cases h
 |some i=>rw[e] at h;exact⟨i,rfl,by simpa using h⟩
def jaR:C1.P.underlying 3=some (.int .i64):=by kernel_rfl
def jf9:C1.P.underlying 185=some (.array 4 3):=by kernel_rfl
def fiv(a0 a1 a2 a3 a4:Int):Array Value:=#[.int .i64 a0,.int .i64 a1,.int .i64 a2,.int .i64 a3,.int .i64 a4]
def jrf{d:Nat}:
  qrun C1.P (Op.equalIn (d+3) 187 (.agg (fiv a0 a1 a2 a3 a4)) (.agg (fiv b0 b1 b2 b3 b4)))=some (decide (a0=b0)&&(decide (a1=b1)&&(decide (a2=b2)&&(decide (a3=b3)&&decide (a4=b4))))):=by
 obtain⟨i,hi,hs⟩:=jrg;obtain⟨j,hj,hA⟩:=jrd
 obtain⟨f1,f2,qA,h1,h2,h3,h4,h5,h6⟩:∃f1 f2:Field,(C1.P.fieldsOf 187).toList=[f1,f2]∧f1.name = "num"∧f1.type=3∧f1.offset=0∧f2.name = "off"∧f2.type=185∧f2.offset=1:=by
  have h:=jgZ;match hq:(C1.P.fieldsOf 187).toList with
  |[]=>rw[hq] at h;simp at h
  |[_]=>rw[hq] at h;simp at h
  |[f1,f2]=>rw[hq] at h;simp at h;exact⟨f1,f2,rfl,h.1.1,h.1.2.1,h.1.2.2,h.2.1,h.2.2.1,h.2.2.2⟩
  |_::_::_::_=>rw[hq] at h;simp at h
 rw[Op.equalIn];rw[qb (j1q jp9)];have hp:∀{α β:Type}(a:α) (f:α→Sem β),(Pure.pure a >>= f:Sem β)=f a:=fun _ _=>rfl
 simp only[];rw[qb jtu];simp only[jm3,CN,if_false];rw[←Array.forIn_toList,qA]
 simp only[List.forIn_cons,List.forIn_nil,h1,h2,h3,h4,h5,h6,ne_eq,show ¬("num" = "_") from by decide,show ¬("off" = "_") from by decide,not_false_eq_true,if_true,bind_assoc]
 have A0:qrun C1.P (part 3 (fiv a0 a1 a2 a3 a4) 0)=some (.int .i64 a0):=jc6 jaR rfl;have B0:qrun C1.P (part 3 (fiv b0 b1 b2 b3 b4) 0)=some (.int .i64 b0):=jc6 jaR rfl;have A1:qrun C1.P (part 185 (fiv a0 a1 a2 a3 a4) 1)=some (.agg #[.int .i64 a1,.int .i64 a2,.int .i64 a3,.int .i64 a4]):=by rw[jh0 jf9 hj,hA];rfl
 have B1:qrun C1.P (part 185 (fiv b0 b1 b2 b3 b4) 1)=some (.agg #[.int .i64 b1,.int .i64 b2,.int .i64 b3,.int .i64 b4]):=by rw[jh0 jf9 hj,hA];rfl
 rw[qb A0,qb B0,qb (jp8 jaR)]
 by_cases k0:a0=b0
 ·subst k0;simp only[beq_self_eq_true,EK,CN,if_false,hp,bind_assoc,decide_true,CG];rw[qb A1,qb B1,qb (jre jf9 jaR hi hs)];cases(decide (a1=b1)&&(decide (a2=b2)&&(decide (a3=b3)&&decide (a4=b4))))<;>rfl
 ·simp only[beq_eq_false_iff_ne.mpr k0,DV,if_true,hp,decide_eq_false k0,CV];rfl
def jvh :
  j0i C1.P .eql 187 x y (.ag [iv a0,iv a1,iv a2,iv a3,iv a4]) (.ag [iv b0,iv b1,iv b2,iv b3,iv b4])=some (bv (decide (a0=b0)&&(decide (a1=b1)&&(decide (a2=b2)&&(decide (a3=b3)&&decide (a4=b4)))))):=by
 show(qrun C1.P (do eqGuard .eql 187 x y (.agg (fiv a0 a1 a2 a3 a4)) (.agg (fiv b0 b1 b2 b3 b4));binOp .eql 187 (.agg (fiv a0 a1 a2 a3 a4)) (.agg (fiv b0 b1 b2 b3 b4)))).bind j6o=_
 have h1:qrun C1.P (eqGuard .eql 187 x y (.agg (fiv a0 a1 a2 a3 a4)) (.agg (fiv b0 b1 b2 b3 b4)))=some ():=by
  simp only[eqGuard,EK,CN,if_false];rw[qb jtu,qb jtu];simp[jiG,qrun,pure]
 rw[qb h1];have h2:qrun C1.P (binOp .eql 187 (.agg (fiv a0 a1 a2 a3 a4)) (.agg (fiv b0 b1 b2 b3 b4)))=some (.bool (decide (a0=b0)&&(decide (a1=b1)&&(decide (a2=b2)&&(decide (a3=b3)&&decide (a4=b4)))))):=by
  simp only[binOp,Op.equal,Op.maxDepth];rw[qb (jrf (d:=9997))];rfl
 rw[h2];rfl
open Go Go.Am Go.Gw
def fmC(f:Fm):List PV:=[iv f.num,iv (f.off 0),iv (f.off 1),iv (f.off 2),iv (f.off 3)]
def fmV(f:Fm):PV:=.ag (fmC f)
def j4A(n:Int):Pf C1 223 [iv n] [fmV (j2o n)]:=by
 refine gR Tryz.func223 ?_;repeat'(refine gU ?_)<;>conv=>whnf
 refine j04 (G:=Nat) (fun i=>[(7,iv i)]) (fun i=>[.box 187 [iv 0,iv 0,iv 0,iv 0,iv 0],.box 187 [iv n,iv (if 0<i then -1 else 0),iv (if 1<i then -1 else 0),iv (if 2<i then -1 else 0),iv (if 3<i then -1 else 0)]]) (fun i=>i≤4) (fun i=>4-i) 0 (by omega) rfl rfl ?_
 intro i hi;match i,hi with
 |0,_=>
  repeat'(refine gU ?_)<;>conv=>whnf
  exact VAgain.mk _ rfl _ (j0a rfl rfl rfl) ⟨1,by omega,by omega,rfl⟩
 |1,_=>
  repeat'(refine gU ?_)<;>conv=>whnf
  exact VAgain.mk _ rfl _ (j0a rfl rfl rfl) ⟨2,by omega,by omega,rfl⟩
 |2,_=>
  repeat'(refine gU ?_)<;>conv=>whnf
  exact VAgain.mk _ rfl _ (j0a rfl rfl rfl) ⟨3,by omega,by omega,rfl⟩
 |3,_=>
  repeat'(refine gU ?_)<;>conv=>whnf
  exact VAgain.mk _ rfl _ (j0a rfl rfl rfl) ⟨4,by omega,by omega,rfl⟩
 |4,_=>
  repeat'(refine gU ?_)<;>conv=>whnf
  rfl
 |n+5,h=>exact absurd h (by omega)
def jrO(f:Fm):Pf C1 225 [fmV f] [bv (jtN f)]:=by
 have hc:=j4A 0;refine gR Tryz.func225 ?_;repeat'(first|refine gU ?_|refine j01 hc fun _=>?_|apply gK)<;>conv=>whnf
 refine VRes.mk _ (jvh (a0:=f.num) (a1:=f.off 0) (a2:=f.off 1) (a3:=f.off 2) (a4:=f.off 3) (b0:=0) (b1:=-1) (b2:=-1) (b3:=-1) (b4:=-1)) ?_;repeat'(refine gU ?_)<;>conv=>whnf
 rfl
def j5X{x:Int}(h:¬x = -1):rise x=x+1:=if_neg h
def j5Y{x:Int}(h:x = -1):rise x=x:=by simp[rise,h]
def jpa(f:Fm)(hf:f.ok 1000000):Pf C1 224 [fmV f] [fmV (jc7 f)]:=by
 obtain⟨⟨h0,h1⟩,h2⟩:=hf;have k0:=h2 0;have k1:=h2 1;have k2:=h2 2;have k3:=h2 3;refine gR Tryz.func224 ?_;repeat'(first|refine gU ?_|apply gE<;>intro h)<;>conv=>whnf
 ·refine j04 (G:=Nat) (fun i=>[(14,iv i)]) (fun i=>[.box 187 [iv f.num,iv (if 0<i then rise (f.off 0) else f.off 0),iv (if 1<i then rise (f.off 1) else f.off 1),iv (if 2<i then rise (f.off 2) else f.off 2),iv (if 3<i then rise (f.off 3) else f.off 3)],.box 187 [iv 0,iv 0,iv 0,iv 0,iv 0]]) (fun i=>i≤4) (fun i=>4-i) 0 (by omega) rfl rfl ?_
  intro i hi;match i,hi with
  |0,_=>
   repeat'(refine gU ?_)<;>conv=>whnf
   refine VRes.mk (iv (f.off 0)) rfl ?_;repeat'(first|refine gU ?_|apply gE<;>intro h)<;>conv=>whnf
   ·exact VAgain.mk _ rfl _ (j0a rfl rfl rfl) ⟨1,by omega,by omega,by rw[j5Y (x:=f.off 0) (by assumption)];rfl⟩
   ·exact VAgain.mk _ rfl _ (j0a rfl rfl rfl) ⟨1,by omega,by omega,by rw[j5X (x:=f.off 0) (by assumption)];rfl⟩
  |1,_=>
   repeat'(refine gU ?_)<;>conv=>whnf
   refine VRes.mk (iv (f.off 1)) rfl ?_;repeat'(first|refine gU ?_|apply gE<;>intro h)<;>conv=>whnf
   ·exact VAgain.mk _ rfl _ (j0a rfl rfl rfl) ⟨2,by omega,by omega,by rw[j5Y (x:=f.off 1) (by assumption)];rfl⟩
   ·exact VAgain.mk _ rfl _ (j0a rfl rfl rfl) ⟨2,by omega,by omega,by rw[j5X (x:=f.off 1) (by assumption)];rfl⟩
  |2,_=>
   repeat'(refine gU ?_)<;>conv=>whnf
   refine VRes.mk (iv (f.off 2)) rfl ?_;repeat'(first|refine gU ?_|apply gE<;>intro h)<;>conv=>whnf
   ·exact VAgain.mk _ rfl _ (j0a rfl rfl rfl) ⟨3,by omega,by omega,by rw[j5Y (x:=f.off 2) (by assumption)];rfl⟩
   ·exact VAgain.mk _ rfl _ (j0a rfl rfl rfl) ⟨3,by omega,by omega,by rw[j5X (x:=f.off 2) (by assumption)];rfl⟩
  |3,_=>
   repeat'(refine gU ?_)<;>conv=>whnf
   refine VRes.mk (iv (f.off 3)) rfl ?_;repeat'(first|refine gU ?_|apply gE<;>intro h)<;>conv=>whnf
   ·exact VAgain.mk _ rfl _ (j0a rfl rfl rfl) ⟨4,by omega,by omega,by rw[j5Y (x:=f.off 3) (by assumption)];rfl⟩
   ·exact VAgain.mk _ rfl _ (j0a rfl rfl rfl) ⟨4,by omega,by omega,by rw[j5X (x:=f.off 3) (by assumption)];rfl⟩
  |4,_=>
   repeat'(refine gU ?_)<;>conv=>whnf
   unfold jc7;rw[j5Y (x:=f.num) (by assumption)]
   rfl
  |n+5,h=>exact absurd h (by omega)
 ·refine j04 (G:=Nat) (fun i=>[(14,iv i)]) (fun i=>[.box 187 [iv (f.num+1),iv (if 0<i then rise (f.off 0) else f.off 0),iv (if 1<i then rise (f.off 1) else f.off 1),iv (if 2<i then rise (f.off 2) else f.off 2),iv (if 3<i then rise (f.off 3) else f.off 3)],.box 187 [iv 0,iv 0,iv 0,iv 0,iv 0]]) (fun i=>i≤4) (fun i=>4-i) 0 (by omega) rfl rfl ?_
  intro i hi;match i,hi with
  |0,_=>
   repeat'(refine gU ?_)<;>conv=>whnf
   refine VRes.mk (iv (f.off 0)) rfl ?_;repeat'(first|refine gU ?_|apply gE<;>intro h)<;>conv=>whnf
   ·exact VAgain.mk _ rfl _ (j0a rfl rfl rfl) ⟨1,by omega,by omega,by rw[j5Y (x:=f.off 0) (by assumption)];rfl⟩
   ·exact VAgain.mk _ rfl _ (j0a rfl rfl rfl) ⟨1,by omega,by omega,by rw[j5X (x:=f.off 0) (by assumption)];rfl⟩
  |1,_=>
   repeat'(refine gU ?_)<;>conv=>whnf
   refine VRes.mk (iv (f.off 1)) rfl ?_;repeat'(first|refine gU ?_|apply gE<;>intro h)<;>conv=>whnf
   ·exact VAgain.mk _ rfl _ (j0a rfl rfl rfl) ⟨2,by omega,by omega,by rw[j5Y (x:=f.off 1) (by assumption)];rfl⟩
   ·exact VAgain.mk _ rfl _ (j0a rfl rfl rfl) ⟨2,by omega,by omega,by rw[j5X (x:=f.off 1) (by assumption)];rfl⟩
  |2,_=>
   repeat'(refine gU ?_)<;>conv=>whnf
   refine VRes.mk (iv (f.off 2)) rfl ?_;repeat'(first|refine gU ?_|apply gE<;>intro h)<;>conv=>whnf
   ·exact VAgain.mk _ rfl _ (j0a rfl rfl rfl) ⟨3,by omega,by omega,by rw[j5Y (x:=f.off 2) (by assumption)];rfl⟩
   ·exact VAgain.mk _ rfl _ (j0a rfl rfl rfl) ⟨3,by omega,by omega,by rw[j5X (x:=f.off 2) (by assumption)];rfl⟩
  |3,_=>
   repeat'(refine gU ?_)<;>conv=>whnf
   refine VRes.mk (iv (f.off 3)) rfl ?_;repeat'(first|refine gU ?_|apply gE<;>intro h)<;>conv=>whnf
   ·exact VAgain.mk _ rfl _ (j0a rfl rfl rfl) ⟨4,by omega,by omega,by rw[j5Y (x:=f.off 3) (by assumption)];rfl⟩
   ·exact VAgain.mk _ rfl _ (j0a rfl rfl rfl) ⟨4,by omega,by omega,by rw[j5X (x:=f.off 3) (by assumption)];rfl⟩
  |4,_=>
   repeat'(refine gU ?_)<;>conv=>whnf
   unfold jc7;rw[j5X (x:=f.num) (by assumption)]
   rfl
  |n+5,h=>exact absurd h (by omega)
def mx(x y:Int):Int:=if y>x then y else x
def jsa(x y:Int):mx x y=max x y:=by unfold mx;split<;>omega
def jtg(f g:Fm):(jcP f g:Fm)=⟨mx f.num g.num,fun j=>mx (f.off j) (g.off j)⟩:=by simp only[jsa];rfl
def jot(f g:Fm):Pf C1 226 [fmV f,fmV g] [fmV (jcP f g)]:=by
 rw[jtg];refine gR Tryz.func226 ?_;repeat'(refine gU ?_)<;>conv=>whnf
 refine j04 (G:=Nat) (fun i=>[(15,iv i)]) (fun i=>[.box 187 [iv (mx f.num g.num),iv (if 0<i then mx (f.off 0) (g.off 0) else f.off 0),iv (if 1<i then mx (f.off 1) (g.off 1) else f.off 1),iv (if 2<i then mx (f.off 2) (g.off 2) else f.off 2),iv (if 3<i then mx (f.off 3) (g.off 3) else f.off 3)],.box 187 (fmC g),.box 187 [iv 0,iv 0,iv 0,iv 0,iv 0]]) (fun i=>i≤4) (fun i=>4-i) 0 (by omega) rfl rfl ?_
 intro i hi;match i,hi with
 |0,_=>
  repeat'(refine gU ?_)<;>conv=>whnf
  refine VRes.mk (iv (g.off 0)) rfl ?_;repeat'(refine gU ?_)<;>conv=>whnf
  exact VAgain.mk _ rfl _ (j0a rfl rfl rfl) ⟨1,by omega,by omega,rfl⟩
 |1,_=>
  repeat'(refine gU ?_)<;>conv=>whnf
  refine VRes.mk (iv (g.off 1)) rfl ?_;repeat'(refine gU ?_)<;>conv=>whnf
  exact VAgain.mk _ rfl _ (j0a rfl rfl rfl) ⟨2,by omega,by omega,rfl⟩
 |2,_=>
  repeat'(refine gU ?_)<;>conv=>whnf
  refine VRes.mk (iv (g.off 2)) rfl ?_;repeat'(refine gU ?_)<;>conv=>whnf
  exact VAgain.mk _ rfl _ (j0a rfl rfl rfl) ⟨3,by omega,by omega,rfl⟩
 |3,_=>
  repeat'(refine gU ?_)<;>conv=>whnf
  refine VRes.mk (iv (g.off 3)) rfl ?_;repeat'(refine gU ?_)<;>conv=>whnf
  exact VAgain.mk _ rfl _ (j0a rfl rfl rfl) ⟨4,by omega,by omega,rfl⟩
 |4,_=>
  repeat'(refine gU ?_)<;>conv=>whnf
  rfl
 |n+5,h=>exact absurd h (by omega)
def lst(f:Fm):Nat→Int
 |0=>f.num
 |i+1=>if f.off i = -1 then lst f i else mx (lst f i) (f.off i+1)
def jk1(h:f.off i = -1):lst f (i+1)=lst f i:=by simp[lst,h]
def jk0(h:¬f.off i = -1):lst f (i+1)=mx (lst f i) (f.off i+1):=by simp[lst,h]
def js5(f:Fm):∀i,jbI f i=lst f i
 |0=>rfl
 |i+1=>by rw[jbI,lst,js5 f i,jsa]
def joD(f:Fm)(hf:f.ok 1000000):Pf C1 227 [fmV f] [iv (joC f)]:=by
 obtain⟨⟨h0,h1⟩,h2⟩:=hf;have k0:=h2 0;have k1:=h2 1;have k2:=h2 2;have k3:=h2 3;rw[joC,js5];refine gR Tryz.func227 ?_;all_goals try conv=>whnf
 refine j04 (G:=Nat) (fun i=>[(10,iv i),(3,iv (lst f i))]) (fun i=>[.box 187 (fmC f)]) (fun i=>i≤4) (fun i=>4-i) 0 (by omega) rfl rfl ?_
 intro i hi;match i,hi with
 |0,_=>
  repeat'(refine gU ?_)<;>conv=>whnf
  refine VRes.mk (iv (f.off 0)) rfl ?_;repeat'(first|refine gU ?_|apply gE<;>intro h)<;>conv=>whnf
  ·exact VAgain.mk _ rfl _ (j0a rfl rfl rfl) ⟨1,by omega,by omega,by rw[jk1 (f:=f) (i:=0) (by assumption)];rfl⟩
  ·exact VAgain.mk _ rfl _ (j0a rfl rfl rfl) ⟨1,by omega,by omega,by rw[jk0 (f:=f) (i:=0) (by assumption)];rfl⟩
 |1,_=>
  repeat'(refine gU ?_)<;>conv=>whnf
  refine VRes.mk (iv (f.off 1)) rfl ?_;repeat'(first|refine gU ?_|apply gE<;>intro h)<;>conv=>whnf
  ·exact VAgain.mk _ rfl _ (j0a rfl rfl rfl) ⟨2,by omega,by omega,by rw[jk1 (f:=f) (i:=1) (by assumption)];rfl⟩
  ·exact VAgain.mk _ rfl _ (j0a rfl rfl rfl) ⟨2,by omega,by omega,by rw[jk0 (f:=f) (i:=1) (by assumption)];rfl⟩
 |2,_=>
  repeat'(refine gU ?_)<;>conv=>whnf
  refine VRes.mk (iv (f.off 2)) rfl ?_;repeat'(first|refine gU ?_|apply gE<;>intro h)<;>conv=>whnf
  ·exact VAgain.mk _ rfl _ (j0a rfl rfl rfl) ⟨3,by omega,by omega,by rw[jk1 (f:=f) (i:=2) (by assumption)];rfl⟩
  ·exact VAgain.mk _ rfl _ (j0a rfl rfl rfl) ⟨3,by omega,by omega,by rw[jk0 (f:=f) (i:=2) (by assumption)];rfl⟩
 |3,_=>
  repeat'(refine gU ?_)<;>conv=>whnf
  refine VRes.mk (iv (f.off 3)) rfl ?_;repeat'(first|refine gU ?_|apply gE<;>intro h)<;>conv=>whnf
  ·exact VAgain.mk _ rfl _ (j0a rfl rfl rfl) ⟨4,by omega,by omega,by rw[jk1 (f:=f) (i:=3) (by assumption)];rfl⟩
  ·exact VAgain.mk _ rfl _ (j0a rfl rfl rfl) ⟨4,by omega,by omega,by rw[jk0 (f:=f) (i:=3) (by assumption)];rfl⟩
 |4,_=>
  repeat'(refine gU ?_)<;>conv=>whnf
 |n+5,h=>exact absurd h (by omega)
def joZ{f g:Fm}{i:Nat}(h:¬f.off i≤g.off i):∀j,i<j→j8U f g j=false
 |0,h1=>absurd h1 (by omega)
 |j+1,h1=>by
  rw[j8U]
  by_cases e:i=j
  ·subst e;simp[h]
  ·rw[joZ h j (by omega)];rfl
def jaE{g:Fm}(hi:i<4)(h:¬f.off i≤g.off i):jd5 f g=false:=by
 rw[jd5,joZ h 4 hi];rfl
def jn4(f g:Fm)(hf:g.ok 1000000):Pf C1 172 [fmV f,fmV g] [bv (jd5 f g)]:=by
 have hl:=joD g hf;refine gR Tryz.func172 ?_;all_goals try conv=>whnf
 refine j04 (G:=Nat) (fun i=>[(9,iv i)]) (fun i=>[.box 187 (fmC f),.box 187 (fmC g)]) (fun i=>i≤4∧j8U f g i=true) (fun i=>4-i) 0 ⟨by omega,rfl⟩ rfl rfl ?_
 rintro i ⟨hi,ho⟩;match i,hi,ho with
 |0,_,ho=>
  repeat'(refine gU ?_)<;>conv=>whnf
  refine VRes.mk (iv (f.off 0)) rfl ?_;repeat'(first|refine gU ?_|apply gE<;>intro h)<;>conv=>whnf
  ·rw[jaE (f:=f) (g:=g) (i:=0) (by omega) (by omega)]
  ·exact VAgain.mk _ rfl _ (j0a rfl rfl rfl) ⟨1,⟨by omega,by rw[j8U,ho];simp;omega⟩,by omega,rfl⟩
 |1,_,ho=>
  repeat'(refine gU ?_)<;>conv=>whnf
  refine VRes.mk (iv (f.off 1)) rfl ?_;repeat'(first|refine gU ?_|apply gE<;>intro h)<;>conv=>whnf
  ·rw[jaE (f:=f) (g:=g) (i:=1) (by omega) (by omega)]
  ·exact VAgain.mk _ rfl _ (j0a rfl rfl rfl) ⟨2,⟨by omega,by rw[j8U,ho];simp;omega⟩,by omega,rfl⟩
 |2,_,ho=>
  repeat'(refine gU ?_)<;>conv=>whnf
  refine VRes.mk (iv (f.off 2)) rfl ?_;repeat'(first|refine gU ?_|apply gE<;>intro h)<;>conv=>whnf
  ·rw[jaE (f:=f) (g:=g) (i:=2) (by omega) (by omega)]
  ·exact VAgain.mk _ rfl _ (j0a rfl rfl rfl) ⟨3,⟨by omega,by rw[j8U,ho];simp;omega⟩,by omega,rfl⟩
 |3,_,ho=>
  repeat'(refine gU ?_)<;>conv=>whnf
  refine VRes.mk (iv (f.off 3)) rfl ?_;repeat'(first|refine gU ?_|apply gE<;>intro h)<;>conv=>whnf
  ·rw[jaE (f:=f) (g:=g) (i:=3) (by omega) (by omega)]
  ·exact VAgain.mk _ rfl _ (j0a rfl rfl rfl) ⟨4,⟨by omega,by rw[j8U,ho];simp;omega⟩,by omega,rfl⟩
 |4,_,ho=>
  repeat'(first|refine gU ?_|refine j01 hl fun _=>?_|apply gK)<;>conv=>whnf
  rw[jd5,ho,CG]
 |n+5,h,_=>exact absurd h (by omega)
open Go Go.Am Go.Gw
def sshr{i j:Int}(hq:j=(q:Int))(hA:q≤63):j0i P .shr T x y (iv i) (iv j)=some (iv (i/2^q)):=by
 have h1:¬j<0:=by omega
 have h2:min j.toNat IntKind.i64.bits=q:=by simp[IntKind.bits];omega
 have h3:i.fdiv (2^q)=i/2^q:=FQ i (Int.le_of_lt (Int.pow_pos (by omega)))
 simp only[j0i,j5r,eqGuard,binOp,Op.shift,if_neg h1,h2,h3];rfl
def jvg{i:Int}(h0:0≤i)(h1:i<64):j0i P .and T x y (iv i) (iv 1)=some (iv (i%2)):=by
 have h:=jea ⟨i.toNat,by omega⟩
 simp only[Int.toNat_of_nonneg h0] at h;have e:((i.toNat%2:Nat):Int)=i%2:=by omega
 rw[e] at h;simp only[j0i,j5r,eqGuard,binOp,ne_eq,not_true_eq_false,if_false,Op.intBits];rw[←h];rfl
def jr6(h:z/2^q%2=0):j8V z q=⟨-1,fun j=>if(j:Int)=q then 0 else -1⟩:=by
 unfold j8V bit;rw[if_pos (by simpa using h)]
def jr5(h:¬z/2^q%2=0):j8V z q=j2o 0:=by
 unfold j8V bit;rw[if_neg (by simpa using h)]
def jt4:j2P (.mk 2 nn ls) z=j8V z nn:=by simp[j2P,j5N]
def jt3:j2P (.mk 1 nn ls) z=j2o nn:=by simp[j2P,j5N]
def jib(q:Nat)(hq:q<4)(zz:Nat)(b:Bool)(xs:List PV)(z:Int)(hz:zz=3∨xs=[])(hA:0≤z)(qA:z<16):Pf C1 171 [.ag [iv 2,iv q,.sl b zz xs],iv z] [fmV (j8V z q)]:=by
 have gA:=j4A 0;obtain rfl|rfl|rfl|rfl:q=0∨q=1∨q=2∨q=3:=by omega
 all_goals
  refine gR Tryz.func171 ?_;repeat'(first|refine gU ?_|refine gX gA ?_)<;>conv=>whnf
  refine VRes.mk _ (sshr rfl (by omega)) ?_
  all_goals try conv=>whnf
  refine VRes.mk _ (jvg (juF hA) (juG hA qA)) ?_;repeat'(first|refine gU ?_|apply gE<;>intro h)<;>conv=>whnf
  ·rw[jr6 (by assumption)]
   rfl
  ·rw[jr5 (by assumption)]
   rfl
def jdk(l:Lv):∀v,LvP l v→∀(z:Int),allF l 4=true→j0T l≤100000→0≤z→z<16→Pf C1 171 [v,iv z] [fmV (j2P l z)]:=by
 induction l using Lv.ind with
 |_ k nn ls ih=>
 intro v h z hA hsz hB wA;obtain⟨_,_,_,b,zz,xs,⟨rfl,rfl,rfl⟩,rfl,hz,qC,hlen,kF⟩:=h.open;have hc:=j4A nn;have hF:=j4A 0
 by_cases h2:k=2
 ·subst h2;obtain⟨h0,h4⟩:=jmY hA rfl;obtain⟨q,rfl⟩:=Int.eq_ofNat_of_zero_le h0;rw[jt4];exact jib q (by omega) zz b xs z hz hB wA
 refine gR Tryz.func171 ?_;repeat'(first|refine gU ?_|apply gE<;>intro h|refine gX hc ?_)<;>conv=>whnf
 ·subst h;rw[jt3];rfl
 ·have gA:k=3:=h;obtain⟨x,rfl⟩:=jq6 hA h;have gB:=j9q hA (i:=0) rfl;have qB:=jfg hsz (i:=0) rfl;obtain⟨v,hv,hl⟩:=qC.at (i:=0) rfl;have hr:=ih x (by simp) v hl z gB qB hB wA
  have kE:=jpa (j2P x z) (jud (jjG _ z gB) qB);obtain⟨k1,n1,l1,b1,z1,x1,rfl,rfl,wB,hC,qA,gC⟩:=hl.open;refine VIdx.mk _ hv (VOk.mk (j0z rfl hz) ?_);repeat'(first|refine gU ?_|refine gX hr ?_|refine gX kE ?_)<;>conv=>whnf
  subst gA;rw[jgq];rfl
 ·have gA:¬k=3:=h;have k2:¬k=2:=h2;have k1:¬k=1:=by assumption
  obtain⟨x,y,rfl⟩:=jsH hA k1 k2 h;have gB:=j9q hA (i:=0) rfl;have qB:=jfg hsz (i:=0) rfl;have wE:=j9q hA (i:=1) rfl;have wD:=jfg hsz (i:=1) rfl;obtain⟨v,hv,hl⟩:=qC.at (i:=0) rfl;obtain⟨w,hw,hm⟩:=qC.at (i:=1) rfl;have wC:=ih x (by simp) v hl z gB qB hB wA
  have hE:=ih y (by simp) w hm z wE wD hB wA
  have hD:=jrO (j2P y z);have hj:=jot (j2P x z) (j2P y z);obtain⟨k1',n1,l1,b1,z1,x1,rfl,rfl,wB,hC,qA,gC⟩:=hl.open;obtain⟨k2',n2,l2,b2,z2,x2,rfl,rfl,qD,gD,hlen2,qE⟩:=hm.open;refine VIdx.mk _ hw (VOk.mk (j0z rfl hz) ?_);repeat'(first|refine gU ?_|apply gE<;>intro h|apply gM<;>intro h|refine gX hE ?_|refine gX hD ?_)<;>conv=>whnf
  ·rename_i h5;rw[j8E k1 k2 gA,if_pos ⟨h5,by assumption⟩]
   rfl
  ·refine VIdx.mk _ hv (VOk.mk (j0z rfl hz) ?_);repeat'(first|refine gU ?_|refine j01 wC fun _=>?_|refine j01 hj fun _=>?_|apply gK)<;>conv=>whnf
   rw[j8E k1 k2 gA,if_neg (fun e=>by simp_all)]
   rfl
  ·refine VIdx.mk _ hv (VOk.mk (j0z rfl hz) ?_);repeat'(first|refine gU ?_|refine j01 wC fun _=>?_|refine j01 hj fun _=>?_|apply gK)<;>conv=>whnf
   rw[j8E k1 k2 gA,if_neg (fun e=>by simp_all)]
   rfl
def jeL(x y:Lv)(v w:PV)(hx:LvP x v)(hy:LvP y w):Pf C1 101 [v,w] [bv (leqF x y)]:=by
 have h1:=j2W x v hx 4;have h2:=j2W y w hy 4;have hB:=jdk x v hx;have wA:=jdk y w hy;obtain⟨k,n,ls,b,z,xs,qC,rfl,hz,hC,hlen,gC⟩:=hx.open;obtain⟨k',n',ls',b',z',xs',wB,rfl,gB,gA,qA,qB⟩:=hy.open;refine gR Tryz.func101 ?_;repeat'(first|refine gU ?_|apply gM<;>intro h|refine gX h1 ?_|refine gX h2 ?_)<;>conv=>whnf
 ·refine j04 (G:=Nat) (fun i=>[(14,iv i)]) (fun i=>_) (fun i=>i≤16∧jip x y i=true) (fun i=>16-i) 0 ⟨by omega,rfl⟩ rfl rfl ?_
  rintro i ⟨hi,ht⟩;have e2:j0C y 4=true:=h;rename_i e1;have hf:=fun(h:i<16)=>hB i (jc8 e1) (j9V e1) (by omega) (by omega)
  have hg:=fun(h:i<16)=>wA i (jc8 e2) (j9V e2) (by omega) (by omega)
  have hb:=jn4 (j2P x i) (j2P y i) (jud (jjG _ i (jc8 e2)) (j9V e2));repeat'(first|refine gU ?_|apply gE<;>intro h|apply gM<;>intro h|refine j01 (hf (by omega)) fun _=>?_|refine j01 (hg (by omega)) fun _=>?_|refine j01 hb fun _=>?_|apply gK)<;>conv=>whnf
  ·have hA:=h;refine VAgain.mk _ rfl _ (j0a rfl rfl rfl) ⟨i+1,⟨by omega,?_⟩,by omega,rfl⟩
   simp[jip,ht,hA]
  ·have hA:=h;rw[leqF,e1,e2,jiq (i:=i) (by omega) hA]
   rfl
  ·have hA:=h;obtain rfl:i=16:=by omega
   rw[leqF,e1,e2,ht];rfl
 ·simp_all[leqF]
 ·simp_all[leqF]
def joY(k:Int):Pf C1 53 [iv k] [.ag [iv 1,iv k,.sl true 0 []]]:=by
 refine gR Tryz.func53 ?_;repeat'(refine gU ?_)<;>conv=>whnf
 rfl
open Go Go.Am Go.Gw
def cn(s:List UInt8):Tm:=.mk 3 0 s [] []
def plN(put:Tm→Int→Option Tm)(t:Tm)(d:Int)(r:List Tm):Tm:=match put t d with
 |some x=>x
 |none=>if t.args.length=0 then t else .mk t.kind 0 [] [] r
mutual
def plF(put:Tm→Int→Option Tm):Tm→Int→Tm
 | .mk k n s ls ts,d=>plN put (.mk k n s ls ts) d (plFs put ts k 0 d)
def plFs(put:Tm→Int→Option Tm):List Tm→Int→Int→Int→List Tm
 |[],_,_,_=>[]
 |t::r,k,i,d=>plF put t (j0n (j0g k) i d)::plFs put r k (i+1) d
end
section
variable{put:Tm→Int→Option Tm}{t x:Tm}{d:Int}{r:List Tm}
def j2S(h:put t d=some x):plN put t d r=x:=by rw[plN,h]
def j1u(h:put t d=none)(ha:t.args.length=0):plN put t d r=t:=by rw[plN,h];exact if_pos ha
def j3S(h:put t d=none)(ha:¬t.args.length=0):plN put t d r=.mk t.kind 0 [] [] r:=by rw[plN,h];exact if_neg ha
end
def j4t(put:Tm→Int→Option Tm):∀(ts:List Tm) (k i d:Int),(plFs put ts k i d).length=ts.length
 |[],k,i,d=>by simp[plFs]
 |t::r,k,i,d=>by simp only[plFs,AC,j4t put r]
mutual
theorem jnc{put:Tm→Int→Option Tm}(hs:∀t d x,put t d=some x→sizT x≤sizT t):∀(t:Tm) (d left:Int),(sizT t:Int)≤left→sizT t≤2000→(bldF put t d left).1=plF put t d∧left-sizT t≤(bldF put t d left).2∧sizT (plF put t d)≤sizT t
 | .mk k n s ls ts,d,left,h1,h2=>by
  rw[bldF,plF];have hA:1+j0x ts≤sizT (.mk k n s ls ts):=by rw[sizT];omega
  cases hp:put (.mk k n s ls ts) d with
  |some x=>
   have:=hs _ _ _ hp;have hx:=j2r x;rw[j5y (by omega) hp,j2S hp]
   refine⟨rfl,?_,this⟩;dsimp only;omega
  |none=>
   by_cases ha:ts.length=0
   ·have hx:=j2r (.mk k n s ls ts);rw[j4b (by omega) hp ha,j1u hp ha]
    refine⟨rfl,?_,AU _⟩;dsimp only;omega
   ·rw[j4c (by omega) hp ha,j3S hp ha]
    have ih:=jjn hs ts k 0 d (left-1) (by omega) (by omega)
    refine⟨by dsimp only;rw[ih.1],by dsimp only;omega,?_⟩
    rw[sizT,j0d];omega
theorem jjn{put:Tm→Int→Option Tm}(hs:∀t d x,put t d=some x→sizT x≤sizT t):∀(ts:List Tm) (k i d left:Int),(j0x ts:Int)≤left→j0x ts≤2000→(j1C put ts k i d left).1=plFs put ts k i d∧left-j0x ts≤(j1C put ts k i d left).2∧j0x (plFs put ts k i d)≤j0x ts
 |[],k,i,d,left,h1,h2=>by simp[j1C,plFs,j0x] at *
 |t::r,k,i,d,left,h1,h2=>by
  rw[j0x] at h1 h2;simp only[j1C,plFs,j0x];have a:=jnc hs t (j0n (j0g k) i d) left (by omega) (by omega)
  have b:=jjn hs r k (i+1) d (bldF put t (j0n (j0g k) i d) left).2 (by omega) (by omega)
  refine⟨?_,by omega,by omega⟩
  rw[a.1,b.1]
end
def jqO{put:Tm→Int→Option Tm}(hs:∀t d x,put t d=some x→sizT x≤sizT t)(h:sizT t≤2000):j3K put t=some (plF put t 0):=by
 have a:=jnc hs t 0 2000 (by omega) h
 unfold j3K;rw[if_neg (by omega),a.1]
def j9r(h:anyT t=true):sizT t≤2000:=by
 have:=(j2n h).1;rw[j2r] at this;omega
def jsE(s:List UInt8)(p kk:Int):allT (cn s) p kk=j2f s:=by
 simp[cn,allT,j2Q,j0Y,j1j,j0M]
def opF(ns:List (List UInt8))(t:Tm)(d:Int):Option Tm:=if t.kind=1∧d≤t.num then some (if(ns.length:Int)≤t.num-d then .mk 1 (t.num-ns.length) [] [] [] else cn (ns.getD ((ns.length:Int)-1-(t.num-d)).toNat [])) else none
def j5U(h:¬(t.kind=1∧d≤t.num)):opF ns t d=none:=if_neg h
def jeZ(h:t.kind=1∧d≤t.num)(h2:(ns.length:Int)≤t.num-d):opF ns t d=some (.mk 1 (t.num-ns.length) [] [] []):=by
 unfold opF;rw[if_pos h,if_pos h2]
def jeY(h:t.kind=1∧d≤t.num)(h2:¬(ns.length:Int)≤t.num-d):opF ns t d=some (cn (ns.getD ((ns.length:Int)-1-(t.num-d)).toNat [])):=by
 unfold opF;rw[if_pos h,if_neg h2]
def joQ{f:Int}(h:t.kind=1∧¬t.num<f+d):movF b f t d=some (.mk 1 (t.num+b) [] [] []):=if_pos h
def jbS{f:Int}(h:¬(t.kind=1∧¬t.num<f+d)):movF b f t d=none:=if_neg h
def jkp(t:Tm):1≤sizT t:=by
 obtain⟨k,n,s,ls,ts⟩:=t;rw[sizT];omega
def abF(c:List UInt8)(t:Tm)(d:Int):Option Tm:=if t.kind=3∧t.name=c then some (.mk 1 d [] [] []) else movF 1 0 t d
def je6(h:¬(t.kind=3∧t.name=c)):abF c t d=movF 1 0 t d:=if_neg h
mutual
def j0v:Tm→List (List UInt8)
 | .mk k _ s _ ts=>(if k=3 then[s] else[])++j0k ts
def j0k:List Tm→List (List UInt8)
 |[]=>[]
 |t::r=>j0v t++j0k r
end
def j5k(h:j2Q (.mk k n s ls ts) kk=true)(hk:k=1):s=[]∧ls=[]:=by
 simp only[j2Q,if_pos hk,AB,decide_eq_true_eq] at h;obtain⟨-,-,h1,h2⟩:=h;exact⟨by simpa using h1,AJ h2⟩
def j5j(h:j2Q (.mk k n s ls ts) kk=true)(hk:4≤k):n=0∧s=[]∧ls=[]:=by
 have e:j0G k=0:=by rw[j0G,if_neg (by omega)]
 simp only[j2Q,if_neg (show ¬k=1 by omega),if_neg (show ¬k=3 by omega),AB,decide_eq_true_eq,e] at h
 obtain⟨h0,h1,h2⟩:=h;exact⟨h0,by simpa using h1,AJ (by omega)⟩
def j4H(h:allT (.mk k n s ls ts) p kk=true):(k<4→ts=[])∧(4≤k→ts.length≠0):=by
 obtain⟨hk,hl,-⟩:=j0q h;constructor
 ·intro h4;rw[j0Y,if_neg (by omega),if_neg (by omega)] at hl
  exact AJ (by omega)
 ·intro h4;rw[j0Y] at hl;split at hl
  ·omega
  ·rw[if_pos (by omega)] at hl
   omega
def jdq(b i d:Int):j0n b i (d+1)=j0n b i d+1:=by
 unfold j0n;split<;>omega
def j6G(b i d e:Int):j0n b i (d+e)=j0n b i d+e:=by
 unfold j0n;split<;>omega
def jo2(ns:List (List UInt8))(c:List UInt8):(ns++[c]).getD ns.length []=c:=by simp[AQ]
def jls(ns:List (List UInt8))(c:List UInt8)(h:i<ns.length):(ns++[c]).getD i []=ns.getD i []:=by simp[AQ,AW h]
def getD_in(ns:List (List UInt8))(h:i<ns.length):ns.getD i []∈ns:=by
 rw[AQ,AA h];exact DH h
def jtR(h:s≠c):abF c (cn s) d=none:=by
 unfold abF movF cn;simp[Tm.kind,Tm.name,h]
def jgQ(h:s≠c):plF (abF c) (cn s) d=cn s:=by
 rw[cn,plF];exact j1u (jtR h) rfl
def jiA:plF (abF c) (cn c) d=.mk 1 d [] [] []:=by
 rw[cn,plF];exact j2S (by simp[abF,Tm.kind,Tm.name])
mutual
theorem juV{ns:List (List UInt8)}{c:List UInt8}(hc:c∉ns):∀(t:Tm) (p kk d:Int),allT t p kk=true→c∉j0v t→plF (abF c) (plF (opF (ns++[c])) t d) d=plF (opF ns) t (d+1)
 | .mk k n s ls ts,p,kk,d,ha,hn=>by
  obtain⟨hk,hl,wA,-,gA⟩:=j0q ha;obtain⟨qA,hB⟩:=j4H ha;rw[j0v,BJ,not_or] at hn
  by_cases h1:k=1
  ·obtain⟨rfl,rfl⟩:=j5k wA h1;obtain rfl:=qA (by omega)
   subst h1;have hlen:((ns++[c]).length:Int)=ns.length+1:=by simp
   by_cases h2:d≤n
   ·by_cases h3:n=d
    ·subst h3;have e1:opF (ns++[c]) (.mk 1 n [] [] []) n=some (cn c):=by
      rw[jeY (t:=.mk 1 n [] [] []) (d:=n) ⟨rfl,CX _⟩ (by rw[hlen];simp only[Tm.num];omega),hlen]
      simp only[Tm.num];rw[show((ns.length:Int)+1-1-(n-n)).toNat=ns.length by omega,jo2]
     have e2:opF ns (.mk 1 n [] [] []) (n+1)=none:=j5U (by simp only[Tm.num];omega)
     rw[plF,plF,j2S e1,jiA,j1u e2 rfl]
    ·by_cases h4:(ns.length:Int)+1≤n-d
     ·have e1:opF (ns++[c]) (.mk 1 n [] [] []) d=some (.mk 1 (n-(ns.length+1)) [] [] []):=by
       rw[jeZ (t:=.mk 1 n [] [] []) ⟨rfl,h2⟩ (by rw[hlen];simp only[Tm.num];omega),hlen]
       rfl
      have e2:opF ns (.mk 1 n [] [] []) (d+1)=some (.mk 1 (n-ns.length) [] [] []):=jeZ ⟨rfl,by simp only[Tm.num];omega⟩ (by simp only[Tm.num];omega)
      have e3:abF c (.mk 1 (n-(ns.length+1)) [] [] []) d=some (.mk 1 (n-(ns.length+1)+1) [] [] []):=by
       rw[je6 (by simp only[Tm.kind];omega),joQ (t:=.mk 1 _ [] [] []) ⟨rfl,by simp only[Tm.num];omega⟩]
       rfl
      rw[plF,plF,j2S e1,plF,j2S e2,j2S e3];congr 1;omega
     ·have hq:((ns.length:Int)-(n-d)).toNat<ns.length:=by omega
      have e1:opF (ns++[c]) (.mk 1 n [] [] []) d=some (cn (ns.getD ((ns.length:Int)-(n-d)).toNat [])):=by
       rw[jeY (t:=.mk 1 n [] [] []) ⟨rfl,h2⟩ (by rw[hlen];simp only[Tm.num];omega),hlen]
       simp only[Tm.num];rw[show(ns.length:Int)+1-1-(n-d)=(ns.length:Int)-(n-d) by omega,jls ns c hq]
      have e2:opF ns (.mk 1 n [] [] []) (d+1)=some (cn (ns.getD ((ns.length:Int)-(n-d)).toNat [])):=by
       rw[jeY (t:=.mk 1 n [] [] []) ⟨rfl,by simp only[Tm.num];omega⟩ (by simp only[Tm.num];omega)]
       simp only[Tm.num];rw[show(ns.length:Int)-1-(n-(d+1))=(ns.length:Int)-(n-d) by omega]
      have hA:ns.getD ((ns.length:Int)-(n-d)).toNat []≠c:=fun e=>hc (e▸getD_in ns hq)
      rw[plF,plF,j2S e1,j2S e2,jgQ hA]
   ·have e1:∀m:List (List UInt8),∀e,d≤e→opF m (.mk 1 n [] [] []) e=none:=fun m e he=>j5U (by simp only[Tm.num];omega)
    have e3:abF c (.mk 1 n [] [] []) d=none:=by
     rw[je6 (by simp only[Tm.kind];omega)]
     exact jbS (by simp only[Tm.num];omega)
    rw[plF,plF,j1u (e1 _ d (by omega)) rfl,plF,j1u (e1 _ (d+1) (by omega)) rfl,j1u e3 rfl]
  ·have e1:∀m:List (List UInt8),∀e s ls ts n,opF m (.mk k n s ls ts) e=none:=fun m e s ls ts n=>j5U (fun h=>h1 h.1)
   by_cases h4:4≤k
   ·have e3:∀ts n,abF c (.mk k n [] [] ts) d=none:=fun ts n=>by
     rw[je6 (by simp only[Tm.kind];omega)]
     exact jbS (by simp only[Tm.kind];omega)
    have hA:=hB h4;have ih:=jrV hc ts k 0 p kk d gA hn.2;rw[plF,plF,j3S (e1 _ _ _ _ _ _) hA,j3S (e1 _ _ _ _ _ _) hA,plF];simp only[Tm.kind];rw[j3S (e3 _ _) (by simp only[Tm.args,j4t];exact hA)]
    simp only[Tm.kind];rw[ih]
   ·obtain rfl:=qA (by omega)
    have e3:abF c (.mk k n s ls []) d=none:=by
     rw[je6]
     ·exact jbS (by simp only[Tm.kind];omega)
     ·simp only[Tm.kind,Tm.name];rintro⟨rfl,rfl⟩;exact hn.1 (by simp)
    rw[plF,plF,j1u (e1 _ _ _ _ _ _) rfl,j1u (e1 _ _ _ _ _ _) rfl,plF,j1u e3 rfl]
theorem jrV{ns:List (List UInt8)}{c:List UInt8}(hc:c∉ns):∀(ts:List Tm) (k i p kk d:Int),j0M ts k i p kk=true→c∉j0k ts→plFs (abF c) (plFs (opF (ns++[c])) ts k i d) k i d=plFs (opF ns) ts k i (d+1)
 |[],k,i,p,kk,d,ha,hn=>by simp only[plFs]
 |t::r,k,i,p,kk,d,ha,hn=>by
  simp only[j0M,AB] at ha;rw[j0k,BJ,not_or] at hn;simp only[plFs];rw[juV hc t p _ _ ha.1 hn.1,jrV hc r k (i+1) p kk d ha.2 hn.2,jdq]
end
mutual
theorem jux:∀(t:Tm) (p kk d:Int),allT t p kk=true→plF (opF []) t d=t
 | .mk k n s ls ts,p,kk,d,ha=>by
  obtain⟨hk,hl,hA,-,gA⟩:=j0q ha;obtain⟨qA,wA⟩:=j4H ha
  by_cases h1:k=1
  ·obtain⟨rfl,rfl⟩:=j5k hA h1;obtain rfl:=qA (by omega)
   by_cases h2:d≤n
   ·have e:opF [] (.mk k n [] [] []) d=some (.mk 1 n [] [] []):=by
     rw[jeZ (t:=.mk k n [] [] []) ⟨h1,h2⟩ (by simp only[Tm.num,AG];omega)]
     simp[Tm.num]
    rw[plF,j2S e,h1]
   ·have e:opF [] (.mk k n [] [] []) d=none:=j5U (by simp only[Tm.num];omega)
    rw[plF,j1u e rfl]
  ·have e:opF [] (.mk k n s ls ts) d=none:=j5U (fun h=>h1 h.1)
   by_cases h4:4≤k
   ·obtain⟨rfl,rfl,rfl⟩:=j5j hA h4;rw[plF,j3S e (wA h4),jp1 ts k 0 p kk d gA];rfl
   ·obtain rfl:=qA (by omega)
    rw[plF,j1u e rfl]
theorem jp1:∀(ts:List Tm) (k i p kk d:Int),j0M ts k i p kk=true→plFs (opF []) ts k i d=ts
 |[],k,i,p,kk,d,ha=>by simp only[plFs]
 |t::r,k,i,p,kk,d,ha=>by
  simp only[j0M,AB] at ha;simp only[plFs];rw[jux t p _ _ ha.1,jp1 r k (i+1) p kk d ha.2]
end
def j5i{ts':List Tm}{kk':Int}(h:j2Q (.mk k n s ls ts) kk=true)(hk:¬k=1):j2Q (.mk k n s ls ts') kk'=true:=by
 simp only[j2Q,if_neg hk] at h⊢;exact h
def j3b(h1:1≤k∧k≤7)(h2:(ts.length:Int)=j0Y k)(h3:j2Q (.mk k n s ls ts) kk=true)(h4:j1j ls p=true)(h5:j0M ts k 0 p kk=true):allT (.mk k n s ls ts) p kk=true:=by
 simp[allT,h1,h2,h3,h4,h5]
def j7l{m:Int}(h0:0≤m)(h1:m<kk):allT (.mk 1 m [] [] []) p kk=true:=by
 simp[allT,j2Q,j0Y,j1j,j0M,h0,h1]
mutual
theorem jb7:∀(t:Tm) (p kk kk':Int),allT t p kk=true→kk≤kk'→allT t p kk'=true
 | .mk k n s ls ts,p,kk,kk',ha,h=>by
  obtain⟨hk,hl,hA,gA,qA⟩:=j0q ha;refine j3b hk hl ?_ gA (jd2 ts k 0 p kk kk' qA h)
  by_cases h1:k=1
  ·have:=j1L hA h1;obtain⟨rfl,rfl⟩:=j5k hA h1;simp[j2Q,h1];omega
  ·exact j5i hA h1
theorem jd2:∀(ts:List Tm) (k i p kk kk':Int),j0M ts k i p kk=true→kk≤kk'→j0M ts k i p kk'=true
 |[],k,i,p,kk,kk',ha,h=>by simp[j0M]
 |t::r,k,i,p,kk,kk',ha,h=>by
  simp only[j0M,AB] at ha⊢;refine⟨jb7 t p _ _ ha.1 ?_,jd2 r k (i+1) p kk kk' ha.2 h⟩;unfold j0n;split<;>omega
end
mutual
theorem jsF{ns:List (List UInt8)}(qA:∀c∈ns,j2f c=true):∀(t:Tm) (p K d:Int),allT t p (K+d+ns.length)=true→0≤K→0≤d→allT (plF (opF ns) t d) p (K+d)=true
 | .mk k n s ls ts,p,K,d,ha,hK,hd=>by
  obtain⟨hk,hl,hA,gA,hB⟩:=j0q ha;obtain⟨wA,qB⟩:=j4H ha
  by_cases h1:k=1
  ·have hv:=j1L hA h1;obtain⟨rfl,rfl⟩:=j5k hA h1;obtain rfl:=wA (by omega)
   subst h1
   by_cases h2:d≤n
   ·by_cases h3:(ns.length:Int)≤n-d
    ·have e:opF ns (.mk 1 n [] [] []) d=some (.mk 1 (n-ns.length) [] [] []):=jeZ ⟨rfl,h2⟩ h3;rw[plF,j2S e];exact j7l (by omega) (by omega)
    ·have hq:((ns.length:Int)-1-(n-d)).toNat<ns.length:=by omega
     have e:opF ns (.mk 1 n [] [] []) d=some (cn (ns.getD ((ns.length:Int)-1-(n-d)).toNat [])):=jeY ⟨rfl,h2⟩ h3;rw[plF,j2S e,jsE];exact qA _ (getD_in ns hq)
   ·have e:opF ns (.mk 1 n [] [] []) d=none:=j5U (by simp only[Tm.num];omega)
    rw[plF,j1u e rfl];exact j7l hv.1 (by omega)
  ·have e:opF ns (.mk k n s ls ts) d=none:=j5U (fun h=>h1 h.1)
   by_cases h4:4≤k
   ·obtain⟨rfl,rfl,rfl⟩:=j5j hA h4;rw[plF,j3S e (qB h4)];exact j3b hk (by rw[j4t];exact hl) (j5i hA h1) gA (jjj qA ts k 0 p K d hB hK hd)
   ·obtain rfl:=wA (by omega)
    rw[plF,j1u e rfl];exact j3b hk hl (j5i hA h1) gA (by simp[j0M])
theorem jjj{ns:List (List UInt8)}(hA:∀c∈ns,j2f c=true):∀(ts:List Tm) (k i p K d:Int),j0M ts k i p (K+d+ns.length)=true→0≤K→0≤d→j0M (plFs (opF ns) ts k i d) k i p (K+d)=true
 |[],k,i,p,K,d,ha,hK,hd=>by simp[plFs,j0M]
 |t::r,k,i,p,K,d,ha,hK,hd=>by
  simp only[j0M,AB] at ha;simp only[plFs,j0M,AB];refine⟨?_,jjj hA r k (i+1) p K d ha.2 hK hd⟩;have hi:=j2q (j0g k) i d;rw[show K+d=d+K by omega,j6G,show j0n (j0g k) i d+K=K+j0n (j0g k) i d by omega]
  refine jsF hA t p K _ ?_ hK (by omega)
  have:=ha.1;rw[show K+d+(ns.length:Int)=d+(K+ns.length) by omega,j6G] at this
  rw[show K+j0n (j0g k) i d+(ns.length:Int)=j0n (j0g k) i d+(K+ns.length) by omega]
  exact this
end
mutual
theorem jsD{c:List UInt8}:∀(t:Tm) (p kk d:Int),allT t p kk=true→0≤d→d≤kk→allT (plF (abF c) t d) p (kk+1)=true
 | .mk k n s ls ts,p,kk,d,ha,hd,wA=>by
  obtain⟨hk,hl,hA,gA,qA⟩:=j0q ha;obtain⟨qB,hB⟩:=j4H ha;cases hp:abF c (.mk k n s ls ts) d with
  |some x=>
   rw[plF,j2S hp];unfold abF at hp;split at hp
   ·cases hp;exact j7l hd (by omega)
   ·unfold movF at hp;split at hp
    ·rename_i h;cases hp;have hv:=j1L hA h.1;simp only[Tm.num] at h⊢;exact j7l (by omega) (by omega)
    ·cases hp
  |none=>
   by_cases h4:4≤k
   ·obtain⟨rfl,rfl,rfl⟩:=j5j hA h4;rw[plF,j3S hp (hB h4)];exact j3b hk (by rw[j4t];exact hl) (j5i hA (show ¬k=1 by omega)) gA (jji ts k 0 p kk d qA hd wA)
   ·obtain rfl:=qB (by omega)
    rw[plF,j1u hp rfl];exact jb7 _ p kk _ ha (by omega)
theorem jji{c:List UInt8}:∀(ts:List Tm) (k i p kk d:Int),j0M ts k i p kk=true→0≤d→d≤kk→j0M (plFs (abF c) ts k i d) k i p (kk+1)=true
 |[],k,i,p,kk,d,ha,hd,hA=>by simp[plFs,j0M]
 |t::r,k,i,p,kk,d,ha,hd,hA=>by
  simp only[j0M,AB] at ha;simp only[plFs,j0M,AB];have hi:=j2q (j0g k) i d;refine⟨?_,jji r k (i+1) p kk d ha.2 hd hA⟩;rw[jdq];refine jsD t p _ _ ha.1 (by omega) ?_
  unfold j0n;split<;>omega
end
def jbN:∀(ts:List Tm) (k i d acc:Int),acc≤j4K ts k i d acc
 |[],k,i,d,acc=>by simp[j4K]
 |t::r,k,i,d,acc=>by
  rw[j4K];have:=jbN r k (i+1) d (max acc (j7P t (j0n (j0g k) i d)));omega
mutual
theorem jkS:∀(t:Tm) (p kk d K:Int),allT t p kk=true→j7P t d≤K→allT t p (K+d)=true
 | .mk k n s ls ts,p,kk,d,K,ha,h=>by
  obtain⟨hk,hl,hA,gA,qA⟩:=j0q ha;obtain⟨wA,hB⟩:=j4H ha
  by_cases h1:k=1
  ·have hv:=j1L hA h1;obtain⟨rfl,rfl⟩:=j5k hA h1;obtain rfl:=wA (by omega)
   rw[j7P,if_pos h1] at h;subst h1;exact j7l hv.1 (by omega)
  ·rw[j7P,if_neg h1] at h;exact j3b hk hl (j5i hA h1) gA (jb8 ts k 0 p kk d 0 K qA h)
theorem jb8:∀(ts:List Tm) (k i p kk d acc K:Int),j0M ts k i p kk=true→j4K ts k i d acc≤K→j0M ts k i p (K+d)=true
 |[],k,i,p,kk,d,acc,K,ha,h=>by simp[j0M]
 |t::r,k,i,p,kk,d,acc,K,ha,h=>by
  simp only[j0M,AB] at ha⊢;rw[j4K] at h;have h2:=jbN r k (i+1) d (max acc (j7P t (j0n (j0g k) i d)));refine⟨?_,jb8 r k (i+1) p kk d _ K ha.2 h⟩;rw[show K+d=d+K by omega,j6G,show j0n (j0g k) i d+K=K+j0n (j0g k) i d by omega]
  exact jkS t p _ _ K ha.1 (by omega)
end
mutual
theorem jlG:∀(t:Tm) (p d K:Int),allT t p (K+d)=true→0≤K→j7P t d≤K
 | .mk k n s ls ts,p,d,K,ha,h=>by
  obtain⟨hk,hl,qA,gA,hA⟩:=j0q ha
  by_cases h1:k=1
  ·have hv:=j1L qA h1;rw[j7P,if_pos h1];omega
  ·rw[j7P,if_neg h1];exact jbO ts k 0 p d 0 K hA h (by omega)
theorem jbO:∀(ts:List Tm) (k i p d acc K:Int),j0M ts k i p (K+d)=true→0≤K→acc≤K→j4K ts k i d acc≤K
 |[],k,i,p,d,acc,K,ha,h,hA=>by simpa[j4K] using hA
 |t::r,k,i,p,d,acc,K,ha,h,hA=>by
  simp only[j0M,AB] at ha;rw[j4K];have:=jlG t p (j0n (j0g k) i d) K (by
   have:=ha.1
   rwa [show K+d=d+K by omega,j6G,show j0n (j0g k) i d+K=K+j0n (j0g k) i d by omega] at this) h
  exact jbO r k (i+1) p d _ K ha.2 h (by omega)
end
mutual
theorem jns{ns:List (List UInt8)}{c:List UInt8}:∀(t:Tm) (p kk d:Int),allT t p kk=true→c∈j0v (plF (opF ns) t d)→c∈j0v t∨c∈ns
 | .mk k n s ls ts,p,kk,d,hA,h=>by
  obtain⟨hk,hl,wA,hB,qA⟩:=j0q hA;obtain⟨gA,qB⟩:=j4H hA;cases hp:opF ns (.mk k n s ls ts) d with
  |some x=>
   rw[plF,j2S hp] at h;unfold opF at hp;split at hp
   ·rename_i hc;cases hp;split at h
    ·simp[j0v,j0k] at h
    ·rename_i h3;simp only[cn,j0v,j0k,if_true,BF,BD] at h;simp only[Tm.num] at h h3 hc;have hq:((ns.length:Int)-1-(n-d)).toNat<ns.length:=by omega
     right
     rw[h];exact getD_in ns hq
   ·cases hp
  |none=>
   by_cases ha:ts.length=0
   ·rw[plF,j1u hp ha] at h;exact .inl h
   ·have h4:4≤k:=by
     by_cases h4:4≤k
     ·exact h4
     ·rw[gA (by omega)] at ha
      exact absurd rfl ha
    rw[plF,j3S hp ha,j0v,if_neg (by simp only[Tm.kind];omega),BV] at h
    rw[j0v,if_neg (by omega),BV]
    exact jd9 ts k 0 p kk d qA h
theorem jd9{ns:List (List UInt8)}{c:List UInt8}:∀(ts:List Tm) (k i p kk d:Int),j0M ts k i p kk=true→c∈j0k (plFs (opF ns) ts k i d)→c∈j0k ts∨c∈ns
 |[],k,i,p,kk,d,ha,h=>by simp[plFs,j0k] at h
 |t::r,k,i,p,kk,d,ha,h=>by
  simp only[j0M,AB] at ha;simp only[plFs,j0k,BJ] at h⊢;rcases h with h|h
  ·rcases jns t p _ _ ha.1 h with h|h
   ·exact .inl (.inl h)
   ·exact .inr h
  ·rcases jd9 r k (i+1) p kk d ha.2 h with h|h
   ·exact .inl (.inr h)
   ·exact .inr h
end
open Go Go.Am Go.Gw
def jqS(b f:Int)(t:Tm)(d:Int)(x:Tm)(h:movF b f t d=some x):sizT x≤sizT t:=by
 have:=jkp t;unfold movF at h;split at h
 ·cases h;simp[sizT,j0x,j0d];omega
 ·cases h
def joN{f:Int}{x:Tm}(h:movF b f t d=some x):t.kind=1∧x=.mk 1 (t.num+b) [] [] []:=by
 unfold movF at h;split at h
 ·rename_i h1;cases h;exact⟨h1.1,rfl⟩
 ·cases h
mutual
theorem jq4{b:Int}(hb:0≤b):∀(t:Tm) (p kk d:Int),allT t p kk=true→0≤d→d≤kk→allT (plF (movF b 0) t d) p (kk+b)=true
 | .mk k n s ls ts,p,kk,d,ha,hd,wA=>by
  obtain⟨hk,hl,hA,gA,qA⟩:=j0q ha;obtain⟨qB,hB⟩:=j4H ha;cases hp:movF b 0 (.mk k n s ls ts) d with
  |some x=>
   rw[plF,j2S hp];obtain⟨h1,rfl⟩:=joN hp;have hv:=j1L hA h1;simp only[Tm.num];exact j7l (by omega) (by omega)
  |none=>
   by_cases h4:4≤k
   ·obtain⟨rfl,rfl,rfl⟩:=j5j hA h4;rw[plF,j3S hp (hB h4)];exact j3b hk (by rw[j4t];exact hl) (j5i hA (show ¬k=1 by omega)) gA (jfO hb ts k 0 p kk d qA hd wA)
   ·obtain rfl:=qB (by omega)
    rw[plF,j1u hp rfl];exact jb7 _ p kk _ ha (by omega)
theorem jfO{b:Int}(hb:0≤b):∀(ts:List Tm) (k i p kk d:Int),j0M ts k i p kk=true→0≤d→d≤kk→j0M (plFs (movF b 0) ts k i d) k i p (kk+b)=true
 |[],k,i,p,kk,d,ha,hd,hA=>by simp[plFs,j0M]
 |t::r,k,i,p,kk,d,ha,hd,hA=>by
  simp only[j0M,AB] at ha;simp only[plFs,j0M,AB];have hi:=j2q (j0g k) i d;refine⟨?_,jfO hb r k (i+1) p kk d ha.2 hd hA⟩;rw[j6G];refine jq4 hb t p _ _ ha.1 (by omega) ?_
  unfold j0n;split<;>omega
end
mutual
theorem jfN{p q:Int}(hA:p≤q):∀l:Lv,allF l p=true→allF l q=true
 | .mk k n ls,h=>by
  simp only[allF,AB] at h⊢;refine⟨?_,jd1 hA ls h.2⟩;have h1:=h.1;simp only[j7G] at h1 ⊢
  by_cases hw:(ls.length:Int)=jcB k<;>by_cases k1:k=1<;>by_cases k2:k=2<;>simp_all<;>omega
theorem jd1{p q:Int}(hA:p≤q):∀ls:List Lv,j3n ls p=true→j3n ls q=true
 |[],_=>rfl
 |l::r,h=>by
  simp only[j3n,AB] at h⊢;exact⟨jfN hA l h.1,jd1 hA r h.2⟩
end
def jao{p q:Int}(hA:p≤q)(hq:q≤4):∀ls:List Lv,j1j ls p=true→j1j ls q=true
 |[],_=>rfl
 |l::r,h=>by
  simp only[j1j,j0C,AB,decide_eq_true_eq] at h⊢;obtain⟨⟨h1,h2,h3,h4⟩,h5⟩:=h;exact⟨⟨by omega,hq,h3,jfN hA l h4⟩,jao hA hq r h5⟩
mutual
theorem jmX{p q:Int}(hA:p≤q)(hq:q≤4):∀(t:Tm) (kk:Int),allT t p kk=true→allT t q kk=true
 | .mk k n s ls ts,kk,ha=>by
  obtain⟨hk,hl,gA,wA,qA⟩:=j0q ha;exact j3b hk hl gA (jao hA hq ls wA) (jd3 hA hq ts k 0 kk qA)
theorem jd3{p q:Int}(hA:p≤q)(hq:q≤4):∀(ts:List Tm) (k i kk:Int),j0M ts k i p kk=true→j0M ts k i q kk=true
 |[],k,i,kk,ha=>by simp[j0M]
 |t::r,k,i,kk,ha=>by
  simp only[j0M,AB] at ha⊢;exact⟨jmX hA hq t _ ha.1,jd3 hA hq r k (i+1) kk ha.2⟩
end
def j3A(h:j0s t p kk=true):(0≤p∧p≤4)∧0≤kk∧j0A t≤2000∧allT t p (min kk 1125899906842624)=true:=by
 simpa[j0s,and_assoc] using h
def j7D(t:Tm)(by_ from_:Int):Option Tm:=if anyT t=true∧(0≤by_∧by_≤1048576)∧(0≤from_∧from_≤1048576) then j3K (movF by_ from_) t else none
def jhd(n:Int):Pf C1 207 [iv n] [bv (decide (0≤n)&&decide (n≤1048576))]:=by
 refine gR Tryz.func207 ?_;repeat'(first|refine gU ?_|apply gE<;>intro h)<;>conv=>whnf
 all_goals simp_all<;>omega
def jjd(t:Tm)(v:PV)(h:TmP t v)(by_ from_:Int):Pf C1 150 [v,iv by_,iv from_] (putV (j7D t by_ from_)):=by
 have hr:=j5x t v h;have h1:=jhd by_;have h2:=jhd from_;have hm:=jgJ by_ from_
 by_cases hc:anyT t=true∧(0≤by_∧by_≤1048576)∧(0≤from_∧from_≤1048576)
 ·obtain⟨ha,hb,hf⟩:=hc;have hd:=j8O by_ from_ (by omega) (by omega) t v h 4 1125899906842624 (j2n ha).2 (by omega) (by have:=j5w ha;omega)
  have e:j7D t by_ from_=j3K (movF by_ from_) t:=if_pos ⟨ha,hb,hf⟩;rw[e];rw[ha] at hr;rw[decide_eq_true hb.1,decide_eq_true hb.2] at h1;rw[decide_eq_true hf.1,decide_eq_true hf.2] at h2;cases he:j3K (movF by_ from_) t with
  |some x=>
   rw[he] at hd;simp only[putV] at hd⊢;obtain⟨k8,n8,s8,b8,z8,x8,c8,y8,ys8,hA⟩:=j06 x;rw[hA] at hd⊢;obtain⟨k,nn,s,ls,ts,b,z,xs,c,y,ys,rfl,rfl,-⟩:=h.open;refine gR Tryz.func150 ?_;repeat'(first|refine gU ?_|refine gX hr ?_|refine gX h1 ?_|refine gX h2 ?_|refine j01 hm fun _=>?_|refine j01 hd fun _=>?_|apply gK)<;>conv=>whnf
   all_goals rfl
  |none=>
   rw[he] at hd;simp only[putV] at hd⊢;obtain⟨k,nn,s,ls,ts,b,z,xs,c,y,ys,rfl,rfl,-⟩:=h.open;refine gR Tryz.func150 ?_;repeat'(first|refine gU ?_|refine gX hr ?_|refine gX h1 ?_|refine gX h2 ?_|refine j01 hm fun _=>?_|refine j01 hd fun _=>?_|apply gK)<;>conv=>whnf
   all_goals rfl
 ·have e:j7D t by_ from_=none:=if_neg hc;rw[e];simp only[putV];obtain⟨k,nn,s,ls,ts,b,z,xs,c,y,ys,rfl,rfl,-⟩:=h.open;refine gR Tryz.func150 ?_;repeat'(first|refine gU ?_|apply gM<;>intro h|refine gX hr ?_|refine gX h1 ?_|refine gX h2 ?_|apply gK)<;>conv=>whnf
  all_goals first
   |rfl
   |exact absurd (by simp_all) hc

/- What the references find of names, levels and terms. -/
import Derived.Test.YtbnodhcijeaceaaGreatDoorXTb
set_option linter.all false
set_option maxHeartbeats 4000000
set_option maxRecDepth 100000
namespace Go.Proofs.YtbnodhcijeaceaaGreatDoor
open Go Go.Am Go.Gw
def jvk(op:BinOp)(a b:Int)(K:PV→Prop):Prop:=match op with
 | .lss=>K (bv (decide (a<b)))
 | .gtr=>K (bv (decide (b<a)))
 | .leq=>K (bv (decide (a≤b)))
 | .geq=>K (bv (decide (b≤a)))
 | .eql=>K (bv (a == b))
 |_=>False
variable{s:List UInt8}{x y:Operand}{t:Tm}
def jfx{P:Program}{op:BinOp}{T:TypeId}{a b:Int}{K:PV→Prop}(h:jvk op a b K):VRes (j0i P op T x y (.sc (.int .u8 a)) (.sc (.int .u8 b))) K:=by
 cases op with
 |lss=>exact⟨_,jsp,h⟩
 |gtr=>exact⟨_,jso,h⟩
 |leq=>exact⟨_,by simp only[j0i,j5r,eqGuard,binOp,Op.intCmp];rfl,h⟩
 |geq=>exact⟨_,by simp only[j0i,j5r,eqGuard,binOp,Op.intCmp];rfl,h⟩
 |eql=>exact⟨_,by simp only[j0i,j5r,eqGuard,binOp,Op.intCmp];rfl,h⟩
 |_=>exact h.elim
def j0O{a b:Bool}(h:a=b):AEnd.ret [bv a]=AEnd.ret [bv b]:=by rw[h]
def jui{ρ:AEnv}{i:Nat}{c:UInt8}(hx:aval ρ x=some (sv s))(hy:aval ρ y=some (iv i))(hc:s[i]?=some c):ja8 C1.P ρ 9 x y=some (.sc (.int .u8 c.toNat)):=by
 have hT:C1.P.underlying 9=some .string:=by kernel_rfl
 have e:qrun C1.P (Instr.index 9 (str s) (.int .i64 i))=some (.int .u8 c.toNat):=by
  have h0:(⟨s.toArray⟩:ByteArray)[i]?=some c:=by
   have hA:=(AK.1 hc).1;have hsz:i<(⟨s.toArray⟩:ByteArray).size:=by rw[j2A];exact hA
   rw[getElem?_pos (⟨s.toArray⟩:ByteArray) i hsz];rw[←(AK.1 hc).2];rfl
  unfold Instr.index;simp only[bind];simp[asIntOf,qrun,bind,Sem.bind,pure];rw[j3z (j1q hT)];simp[pure,qrun,h0]
 simp only[ja8,hx,hy];show(qrun C1.P (Instr.index 9 (str s) (.int .i64 i))).bind j6o=_
 rw[e];rfl
def jlB(c:UInt8):Pf C1 132 [.sc (.int .u8 c.toNat)] [bv (decide (97≤c.toNat∧c.toNat≤122∨c.toNat=95))]:=by
 refine gR Tryz.func132 ?_;repeat'(first|refine gU ?_|apply gE<;>intro h|apply gM<;>intro h|refine jfx ?_|apply gK)<;>conv=>whnf
 all_goals
  refine j0O ?_;rw[CL];simp;omega
def jnz(c:UInt8):Pf C1 133 [.sc (.int .u8 c.toNat)] [bv (decide (48≤c.toNat∧c.toNat≤57))]:=by
 refine gR Tryz.func133 ?_;repeat'(first|refine gU ?_|apply gE<;>intro h|apply gM<;>intro h|refine jfx ?_|apply gK)<;>conv=>whnf
 all_goals
  refine j0O ?_;rw[CL];simp;omega
def jmg(l:Lv):∀v,LvP l v→∀n,Pf C1 253 [v,iv n] [bv (allF l n)]:=by
 induction l using Lv.ind with
 |_ k nn ls ih=>
 intro v h n;obtain⟨_,_,_,b,z,xs,⟨rfl,rfl,rfl⟩,rfl,hz,wB,hlen,gC⟩:=h.open;refine gR Tryz.func253 ?_;repeat'(first|refine gU ?_|apply gE<;>intro h|apply gM<;>intro h|apply gK)<;>conv=>whnf
 all_goals try(refine j0O ?_;cases ls<;>simp_all[allF,j3n,j7G,jcB];done)
 all_goals try(refine j0O ?_;cases ls<;>simp_all[allF,j3n,j7G,jcB];all_goals omega)
 all_goals
  have qA:j7G (.mk k nn ls) n=true:=by simp_all[j7G,jcB]
  refine j04 (G:=Nat) (fun i=>[(6,iv i)]) (fun _=>_) (fun i=>i≤ls.length∧j3n (ls.drop i) n=j3n ls n) (fun i=>ls.length-i) 0 ⟨by omega,rfl⟩ rfl rfl ?_
  rintro i ⟨hi,hA⟩;repeat'(first|refine gU ?_|apply gE<;>intro h|apply gM<;>intro h|apply gK)<;>conv=>whnf
  ·have qB:i<ls.length:=by simp_all;omega
   obtain⟨lc,wA⟩:∃lc,ls[i]?=some lc:=⟨_,AA qB⟩;obtain⟨v,hv,hl⟩:=wB.at wA;have gA:=ih _ (AE wA) _ hl n;obtain⟨k1,n1,l1,b1,z1,x1,rfl,rfl,qC,gB,hB,hC⟩:=hl.open;refine VIdx.mk _ hv (VOk.mk (j0z rfl hz) ?_);rw[drop_at wA] at hA;simp only[j3n] at hA;repeat'(first|refine gU ?_|apply gE<;>intro h|apply gM<;>intro h|refine gX gA ?_|apply gK)<;>conv=>whnf
   ·refine VAgain.mk _ rfl _ (j0a rfl rfl rfl) ⟨i+1,⟨qB,?_⟩,by omega,rfl⟩
    rw[←hA,h];rfl
   ·refine j0O ?_;rw[allF,←hA,h];simp
  ·refine j0O ?_;have:i=ls.length:=by simp_all;omega
   subst this;rw[BU] at hA;rw[allF,qA,←hA];rfl
def jm4(l:Lv)(v:PV)(h:LvP l v)(n:Int):Pf C1 195 [v,iv n] [bv (j0C l n)]:=by
 have hn:=j4J l v h 64 (by omega) (by omega)
 rw[show lnF l 64=j6l l by rw[j6P,jbK _ _ (by omega)];rfl] at hn
 have ha:=jmg l v h n;obtain⟨k,nn,ls,b,z,xs,rfl,rfl,hz,hA,hlen,qA⟩:=h.open;refine gR Tryz.func195 ?_;repeat'(first|refine gU ?_|apply gE<;>intro h|apply gM<;>intro h|refine gX hn ?_|refine gX ha ?_|apply gK)<;>conv=>whnf
 all_goals simp_all[j0C,retV]
 all_goals try omega
def letC(c:UInt8):Bool:=decide (97≤c.toNat∧c.toNat≤122∨c.toNat=95)
def digC(c:UInt8):Bool:=decide (48≤c.toNat∧c.toNat≤57)
def rnF:List UInt8→Bool→Bool
 |[],first=>!first
 |c::r,first=>if c.toNat=46 then(if first then false else rnF r true) else if(letC c||(digC c && !first))=true then rnF r false else false
def jf3(c:UInt8):j6m c=(letC c||digC c):=by
 rw[CL];simp[j6m,letC,digC,UInt8.le_iff_toNat_le,←UInt8.toNat_inj];omega
def ju6(c:UInt8):(48≤c&&c≤57)=digC c:=by
 rw[CL];simp[digC,UInt8.le_iff_toNat_le]
def jgP{p:List UInt8}(h:p≠[])(c:UInt8):j2R (p++[c])=(j2R p&&j6m c):=by
 cases p with
 |nil=>exact absurd rfl h
 |cons a r=>simp[j2R,Bool.and_assoc]
def jti(c:UInt8)(h:letC c=true):digC c=false:=by
 simp[letC,digC] at *;omega
def jaX:∀(s acc:List UInt8),(acc=[]→(j1v acc s).all j2R=rnF s true)∧(acc≠[]→j2R acc.reverse=true→(j1v acc s).all j2R=rnF s false)∧(acc≠[]→j2R acc.reverse=false→(j1v acc s).all j2R=false)
 |[],acc=>by
  refine⟨fun h=>?_,fun _ h=>?_,fun _ h=>?_⟩
  ·subst h;rfl
  ·simp[j1v,h,rnF]
  ·simp[j1v,h]
 |c::r,acc=>by
  have hA:(c == 46)=decide (c.toNat=46):=by
   rw[CL];simp[←UInt8.toNat_inj]
  have ih0:=(jaX r []).1 rfl;have ih1:=(jaX r (c::acc)).2.1 (by simp)
  have ih2:=(jaX r (c::acc)).2.2 (by simp)
  rw[HF] at ih1 ih2;rw[j1v,hA]
  by_cases hc:c.toNat=46
  ·simp only[hc,decide_true,if_true,BH,ih0];refine⟨fun h=>?_,fun _ h=>?_,fun _ h=>?_⟩
   ·subst h;simp[j2R,rnF,hc]
   ·rw[h,rnF,if_pos hc];rfl
   ·rw[h];rfl
  ·simp only[hc,decide_false,if_false,CN];refine⟨fun h=>?_,fun h hp=>?_,fun h hp=>?_⟩
   ·subst h;rw[rnF,if_neg hc];have e:j2R ([].reverse++[c])=letC c:=by
     simp only[GA,BV,j2R,ju6,BH,FY,Bool.and_true,jf3];cases hl:letC c
     ·cases digC c<;>rfl
     ·rw[jti c hl];rfl
    cases hl:letC c
    ·rw[ih2 (by rw[e,hl])];simp
    ·rw[ih1 (by rw[e,hl])];simp
   ·have e:j2R (acc.reverse++[c])=j6m c:=by rw[jgP (by simpa using h),hp,CG]
    rw[rnF,if_neg hc];cases hl:j6m c
    ·rw[ih2 (by rw[e,hl])];rw[jf3] at hl;simp[hl]
    ·rw[ih1 (by rw[e,hl])];rw[jf3] at hl;simp[hl]
   ·have e:j2R (acc.reverse++[c])=false:=by rw[jgP (by simpa using h),hp,CV]
    exact ih2 e
def joT(s:List UInt8):j2f s=(decide (s.length≤40)&&rnF s true):=by rw[j2f,j4E,(jaX s []).1 rfl]
def j8d(s:List UInt8)(hs:s.length≤140737488355328):Pf C1 83 [sv s] [bv (j2f s)]:=by
 have hsz:ByteArray.size ⟨s.toArray⟩=s.length:=by simp[j2A]
 refine gR Tryz.func83 ?_;repeat'(first|refine gU ?_|apply gE<;>intro h|apply gM<;>intro h|apply gK)<;>conv=>whnf
 ·refine j0O ?_;obtain rfl:s=[]:=AJ (by rw[hsz] at *;omega)
  rfl
 ·refine j0O ?_;rw[hsz] at *;rw[joT,decide_eq_false (by omega)]
  rfl
 ·have qA:j2f s=rnF s true:=by
   rw[hsz] at *;rw[joT,decide_eq_true (by omega)]
   rfl
  refine j04 (G:=Nat×Bool) (fun g=>[(4,iv g.1),(3,bv g.2)]) (fun _=>_) (fun g=>g.1≤s.length∧rnF (s.drop g.1) g.2=rnF s true) (fun g=>s.length-g.1) (0,true) ⟨by omega,rfl⟩ rfl rfl ?_
  rintro⟨i,fst⟩ ⟨hi,hA⟩;dsimp only at hi hA⊢;repeat'(first|refine gU ?_|apply gE<;>intro h|apply gM<;>intro h|apply gK)<;>conv=>whnf
  ·have gA:i<s.length:=by omega
   obtain⟨c,hc⟩:∃c,s[i]?=some c:=⟨_,AA gA⟩;rw[drop_at hc,rnF] at hA;have wA:=jlB c;have hB:=jnz c;repeat'(first|refine gU ?_|apply gE<;>intro h|apply gM<;>intro h|refine VRes.mk _ (jui rfl rfl hc) ?_|refine jfx ?_|refine gX wA ?_|refine gX hB ?_|apply gK)<;>conv=>whnf
   ·refine j0O ?_;rw[qA,←hA,if_pos (by omega),if_pos (by assumption)]
   ·refine VAgain.mk _ rfl _ (j0a rfl rfl rfl) ⟨(i+1,true),⟨gA,?_⟩,by dsimp only;omega,rfl⟩
    rw[←hA,if_pos (by omega),if_neg (by simp_all)]
   ·refine VAgain.mk _ rfl _ (j0a rfl rfl rfl) ⟨(i+1,false),⟨gA,?_⟩,by dsimp only;omega,rfl⟩
    rw[←hA,if_neg (by omega),if_pos (by simp_all[letC])]
   ·refine j0O ?_;rw[qA,←hA,if_neg (by omega),if_neg (by simp_all[letC,digC])]
   ·refine VAgain.mk _ rfl _ (j0a rfl rfl rfl) ⟨(i+1,false),⟨gA,?_⟩,by dsimp only;omega,rfl⟩
    rw[←hA,if_neg (by omega),if_pos (by simp_all[digC])]
   ·refine j0O ?_;have h1:digC c=false:=decide_eq_false (by omega)
    have h2:letC c=false:=decide_eq_false (by omega)
    rw[qA,←hA,if_neg (by omega),h1,h2]
    rfl
  ·refine j0O ?_;have:i=s.length:=by rw[hsz] at *;omega
   subst this;rw[BU,rnF] at hA;rw[qA,←hA]
mutual
def sizT:Tm→Nat
 | .mk _ _ _ ls ts=>1+j0d ls+j0x ts
def j0x:List Tm→Nat
 |[]=>0
 |t::r=>sizT t+j0x r
end
def jbM(q:Int)(h:0≤q):∀(ls:List Lv) (acc:Int),0≤acc→(acc+j0d ls≤q→lnFs ls acc q=acc+j0d ls)∧(q<acc+j0d ls→q<lnFs ls acc q)
 |[],acc,h0=>by simp[lnFs,j0d]
 |l::r,acc,h0=>by
  have h1:=jbK l q h;have h2:=j4q l;rw[lnFs,j0d]
  by_cases hq:acc≤q
  ·rw[if_pos hq];have ih:=jbM q h r (acc+lnF l q) (by omega)
   constructor
   ·intro h3;rw[ih.1 (by omega)]
    omega
   ·intro h3
    by_cases h4:(j0T l:Int)≤q+1
    ·exact ih.2 (by omega)
    ·have:=jbL q h r (acc+lnF l q);omega
  ·rw[if_neg hq];omega
mutual
theorem jpi:∀(t:Tm) (q:Int),0≤q→refN t q=min (sizT t:Int) (q+1)
 | .mk _ _ s ls ts,q,h=>by
  rw[refN,sizT];have h1:=jbM q h ls 1 (by omega)
  have h2:=jbL q h ls 1
  by_cases h3:1+(j0d ls:Int)≤q
  ·have h4:=jkj ts (lnFs ls 1 q) q h (by omega)
   rw[h1.1 h3] at h4 ⊢
   by_cases h5:1+(j0d ls:Int)+j0x ts≤q
   ·rw[h4.1 h5];omega
   ·have:=h4.2 (by omega);omega
  ·have h4:=h1.2 (by omega)
   have:=jaS ts (lnFs ls 1 q) q h;omega
theorem jkj:∀(ts:List Tm) (acc q:Int),0≤q→0≤acc→(acc+j0x ts≤q→j8e ts acc q=acc+j0x ts)∧(q<acc+j0x ts→q<j8e ts acc q)
 |[],acc,q,h,h0=>by simp[j8e,j0x]
 |t::r,acc,q,h,h0=>by
  have h1:=jpi t q h;have h2:1≤refN t q:=(jiJ t q h).1;rw[j8e,j0x]
  by_cases hq:acc≤q
  ·rw[if_pos hq];have ih:=jkj r (acc+refN t q) q h (by omega)
   constructor
   ·intro h3;rw[ih.1 (by omega)]
    omega
   ·intro h3
    by_cases h4:(sizT t:Int)≤q+1
    ·exact ih.2 (by omega)
    ·have:=jaS r (acc+refN t q) q h;omega
  ·rw[if_neg hq];omega
end
mutual
theorem jnq:∀(t:Tm) (left:Int),0≤left→((sizT t:Int)≤left→cntT t left=left-sizT t)∧(left<(sizT t:Int)→cntT t left = -1)
 | .mk _ _ s ls ts,left,h=>by
  rw[cntT,sizT];have h1:=j9x ls (left-1) (by omega)
  have hg:=j4R ls (left-1) (by omega)
  by_cases h3:(j0d ls:Int)≤left-1
  ·rw[h1.1 h3];have h4:=jjt ts (left-1-j0d ls) (by omega)
   constructor
   ·intro h5;rw[h4.1 (by omega)]
    omega
   ·intro h5
    by_cases hA:ts=[]
    ·subst hA;simp only[j0x] at h5;omega
    ·exact h4.2 (by omega) hA
  ·by_cases h6:left=0
   ·subst h6;rw[j4g _ _ (by omega),j4P _ _ (by omega)]
    constructor
    ·intro;omega
    ·intro;rfl
   ·have h2:ls≠[]:=by
     rintro rfl;simp only[j0d] at h3;omega
    rw[h1.2 (by omega) h2,j4P _ _ (by omega)]
    constructor
    ·intro;omega
    ·intro;rfl
theorem jjt:∀(ts:List Tm) (left:Int),-1≤left→((j0x ts:Int)≤left→j5B ts left=left-j0x ts)∧(left<(j0x ts:Int)→ts≠[]→j5B ts left = -1)
 |[],left,h=>by simp[j5B,j0x]
 |t::r,left,h=>by
  rw[j5B,j0x]
  by_cases h0:left<0
  ·rw[if_pos h0];have:1≤sizT t:=by cases t;simp[sizT];omega
   constructor
   ·intro;omega
   ·intro;omega
  ·rw[if_neg h0];have h1:=jnq t left (by omega)
   by_cases h2:(sizT t:Int)≤left
   ·rw[h1.1 h2];have ih:=jjt r (left-sizT t) (by omega)
    constructor
    ·intro h3;rw[ih.1 (by omega)]
     omega
    ·intro h3 _
     by_cases hr:r=[]
     ·subst hr;simp only[j0x] at h3;omega
     ·exact ih.2 (by omega) hr
   ·rw[h1.2 (by omega),j4P _ _ (by omega)]
    constructor
    ·intro;omega
    ·intro;simp
end
def j2r(t:Tm):j0A t=min (sizT t:Int) 2001:=by
 have:=jnq t 2000 (by omega)
 unfold j0A
 by_cases h:(sizT t:Int)≤2000
 ·rw[this.1 h];omega
 ·rw[this.2 (by omega)];omega
def jmd(t:Tm):refN t 2000=j0A t:=by rw[j2r,jpi t 2000 (by omega)];rfl
def jiL(t:Tm):∀v,TmP t v→NmT j9m t→∀n kk:Int,0≤kk→kk+depT t≤2251799813685248→Pf C1 135 [v,iv n,iv kk] [bv (allT t n kk)]:=by
 induction t using Tm.ind with
 |_ k nn s ls ts ih=>
 intro v h gC n kk qG kG;simp only[NmT] at gC;have qA:=j8d s gC.1;obtain⟨_,_,_,_,_,b,z,xs,c,y,ys,⟨rfl,rfl,rfl,rfl,rfl⟩,rfl,hz,wF,hlen,gH,hy,gF,hlen2,wG,qH⟩:=h.open;rw[depT] at kG;refine gR Tryz.func135 ?_;repeat'(first|refine gU ?_|apply gE<;>intro h|apply gM<;>intro h|apply gK)<;>conv=>whnf
 refine j04 (G:=Nat) (fun i=>[(7,iv i)]) (fun _=>_) (fun i=>i≤ls.length∧j1j (ls.drop i) n=j1j ls n) (fun i=>ls.length-i) 0 ⟨by omega,rfl⟩ rfl rfl ?_
 rintro i ⟨hi,hB⟩;repeat'(first|refine gU ?_|apply gE<;>intro h|apply gM<;>intro h|refine gX qA ?_|refine j1w (b:=[]) ?_|apply gK)<;>conv=>whnf
 ·have wE:i<ls.length:=by omega
  obtain⟨lc,qE⟩:∃lc,ls[i]?=some lc:=⟨_,AA wE⟩;obtain⟨v,hv,hl⟩:=wF.at qE;have hr:=jm4 lc _ hl n;obtain⟨k1,n1,l1,b1,z1,x1,rfl,rfl,kF,wC,qC,hE⟩:=hl.open;refine VIdx.mk _ hv (VOk.mk (j0z rfl hz) ?_);rw[drop_at qE] at hB;simp only[j1j] at hB;repeat'(first|refine gU ?_|apply gE<;>intro h|apply gM<;>intro h|refine gX hr ?_|apply gK)<;>conv=>whnf
  ·refine VAgain.mk _ rfl _ (j0a rfl rfl rfl) ⟨i+1,⟨wE,?_⟩,by omega,rfl⟩
   rw[←hB,h];rfl
  ·have:j1j ls n=false:=by
    rw[←hB,h];rfl
   refine j0O ?_;rw[allT,this];simp
 all_goals
  have kE:j1j ls n=true:=by
   rw[←hB,AV (by omega)]
   rfl
  clear hB
 all_goals try(exfalso;omega)
 all_goals try(clear ih qA;refine j0O (Eq.symm ?_);simp_all[allT,j2Q,j0Y,j0G];done)
 all_goals try(clear ih qA;refine j0O (Eq.symm ?_);simp_all[allT,j2Q,j0Y,j0G];all_goals omega)
 iterate 3
  ·have qD:(ts.length:Int)=j0Y k:=by unfold j0Y;split<;>first|omega|(split<;>omega)
   have qB:j2Q (.mk k nn s ls ts) kk=true:=by
    clear ih qA
    simp_all[j2Q,j0G]
    try omega
   have wA:1≤k∧k≤7:=by omega
   have gA:allT (.mk k nn s ls ts) n kk=j0M ts k 0 n kk:=by rw[allT,decide_eq_true wA.1,decide_eq_true wA.2,decide_eq_true qD,qB,kE];rfl
   refine j04 (G:=Nat) (fun i=>[(10,iv i)]) (fun _=>_) (fun j=>j≤ts.length∧j0M (ts.drop j) k j n kk=j0M ts k 0 n kk) (fun i=>ts.length-i) 0 ⟨by omega,rfl⟩ rfl rfl ?_
   rintro j ⟨hj,hA⟩;repeat'(first|refine gU ?_|apply gE<;>intro h|apply gM<;>intro h|apply gK)<;>conv=>whnf
   refine j0O ?_;rw[gA,←hA,AV (by omega)]
   rfl
 all_goals
  have qD:(ts.length:Int)=j0Y k:=by unfold j0Y;split<;>first|omega|(split<;>omega)
  have qB:j2Q (.mk k nn s ls ts) kk=true:=by
   clear ih qA
   simp_all[j2Q,j0G]
   try omega
  have wA:1≤k∧k≤7:=by omega
  have gA:allT (.mk k nn s ls ts) n kk=j0M ts k 0 n kk:=by rw[allT,decide_eq_true wA.1,decide_eq_true wA.2,decide_eq_true qD,qB,kE];rfl
  refine j04 (G:=Nat) (fun i=>[(10,iv i)]) (fun _=>_) (fun j=>j≤ts.length∧j0M (ts.drop j) k j n kk=j0M ts k 0 n kk) (fun i=>ts.length-i) 0 ⟨by omega,rfl⟩ rfl rfl ?_
  rintro j ⟨hj,hA⟩;have hH:=jn9 k j wA.1 (by omega)
  repeat'(first|refine gU ?_|apply gE<;>intro h|apply gM<;>intro h|apply gK)<;>conv=>whnf
  ·have wD:j<ts.length:=by omega
   obtain⟨tc,hD⟩:∃tc,ts[j]?=some tc:=⟨_,AA wD⟩;obtain⟨v,hv,hl⟩:=gF.at hD;have gB:=AE hD;have gG:=j6x gB;have hC:=ih _ gB _ hl (gC.2.mem _ gB) n kk qG (by omega)
   have wB:=ih _ gB _ hl (gC.2.mem _ gB) n (kk+1) (by omega) (by omega)
   obtain⟨k1,n1,s1,l1,t1,b1,z1,x1,c1,y1,ys1,rfl,rfl,kF,wC,qC,hE,kH,qF,gD,hF,hG⟩:=hl.open;rw[drop_at hD] at hA;simp only[j0M] at hA;repeat'(first|refine gU ?_|apply gE<;>intro h|apply gM<;>intro h|refine gX hH ?_|refine VIdx.mk _ hv ?_|refine gZ hy ?_|refine gX hC ?_|refine gX wB ?_|apply gK)<;>conv=>whnf
   ·rw[j0n,if_pos (by assumption),h,CG] at hA
    exact VAgain.mk _ rfl _ (j0a rfl rfl rfl) ⟨j+1,⟨wD,hA⟩,by omega,rfl⟩
   ·rw[j0n,if_pos (by assumption),h,CV] at hA
    refine j0O ?_;rw[gA,←hA]
   ·rw[j0n,if_neg (by assumption),h,CG] at hA
    exact VAgain.mk _ rfl _ (j0a rfl rfl rfl) ⟨j+1,⟨wD,hA⟩,by omega,rfl⟩
   ·rw[j0n,if_neg (by assumption),h,CV] at hA
    refine j0O ?_;rw[gA,←hA]
  ·refine j0O ?_;rw[gA,←hA,AV (by omega)]
   rfl
def j3U(t:Tm)(v:PV)(h:TmP t v)(hA:NmT j9m t)(n kk:Int):Pf C1 84 [v,iv n,iv kk] [bv (j0s t n kk)]:=by
 have hn:=jh2 t v h 2000 (by omega) (by omega)
 rw[jmd] at hn;have ha:=fun(h0:0≤kk) (h1:j0A t≤2000)=>jiL t v h hA n (min kk 1125899906842624) (by omega) (by have:=jbW h1;omega)
 rw[show min kk 1125899906842624=if 1125899906842624<kk then 1125899906842624 else kk from(j4o _ _).symm] at ha
 obtain⟨k,nn,s,ls,ts,b,z,xs,c,y,ys,rfl,rfl,hz,wA,hlen,qB,hy,gA,hlen2,qA,hB⟩:=h.open;refine gR Tryz.func84 ?_;repeat'(first|refine gU ?_|apply gE<;>intro h|apply gM<;>intro h|refine gX hn ?_|refine gX (ha (by assumption) (by assumption)) ?_|apply gK)<;>conv=>whnf
 all_goals simp only[j0s,←j4o]
 all_goals simp_all
 all_goals first|done|rfl|omega|(intros;omega)
def anyT(t:Tm):Bool:=j0s t 4 1125899906842624
def jst(t:Tm)(v:PV)(h:TmP t v)(hA:NmT j9m t)(n:Int):Pf C1 136 [v,iv n] [bv (j0s t n 1125899906842624)]:=by
 have hr:=j3U t v h hA n 1125899906842624;obtain⟨k,nn,s,ls,ts,b,z,xs,c,y,ys,rfl,rfl,hz,wA,hlen,qB,hy,gA,hlen2,qA,hB⟩:=h.open;refine gR Tryz.func136 ?_;repeat'(first|refine gU ?_|apply gE<;>intro h|apply gM<;>intro h|refine gX hr ?_|apply gK)<;>conv=>whnf
 rfl
open Go Go.Am Go.Gw
mutual
theorem TmP.names:∀{t:Tm}{v:PV},TmP t v→NmT j9m t
 | .mk k n s ls ts,v,h=>by
  simp only[TmP] at h;obtain⟨b,z,xs,c,y,ys,rfl,hz,wA,hB,hy,hA,gA,qA,hi⟩:=h;simp only[NmT];exact⟨qA,TmsP.names hA⟩
theorem TmsP.names:∀{ts:List Tm}{xs:List PV},TmsP ts xs→NmTs j9m ts
 |[],xs,h=>by simp only[NmTs]
 |t::r,xs,h=>by
  simp only[TmsP] at h;obtain⟨v,xs',rfl,h1,h2⟩:=h;simp only[NmTs];exact⟨TmP.names h1,TmsP.names h2⟩
end
def j0R(t:Tm)(v:PV)(h:TmP t v)(n kk:Int):Pf C1 99 [v,iv n,iv kk] [bv (j0s t n kk)]:=jmf jqT t v h h.names n kk
def j5x(t:Tm)(v:PV)(h:TmP t v):Pf C1 206 [v] [bv (anyT t)]:=by
 have hr:=j0R t v h 4 1125899906842624;obtain⟨k,nn,s,ls,ts,b,z,xs,c,y,ys,rfl,rfl,hz,gA,hlen,hB,hy,qA,hlen2,hA,wA⟩:=h.open;refine gR Tryz.func206 ?_;repeat'(first|refine gU ?_|refine gX hr ?_)<;>conv=>whnf
 all_goals rfl
def jef(t:Tm)(v:PV)(h:TmP t v):Pf C1 212 [v] [bv (!anyT t)]:=by
 have hr:=j5x t v h;obtain⟨k,nn,s,ls,ts,b,z,xs,c,y,ys,rfl,rfl,hz,gA,hlen,hB,hy,qA,hlen2,hA,wA⟩:=h.open;refine gR Tryz.func212 ?_;repeat'(first|refine gU ?_|refine gX hr ?_)<;>conv=>whnf
 all_goals rfl
def jn6(k:Int):Bool:=decide (k=6∨k=5)
mutual
def j7P:Tm→Int→Int
 | .mk k n _ _ ts,d=>if k=1 then max (n-d+1) 0 else j4K ts k 0 d 0
def j4K:List Tm→Int→Int→Int→Int→Int
 |[],_,_,_,acc=>acc
 |t::r,k,i,d,acc=>j4K r k (i+1) d (max acc (j7P t (j0n (j0g k) i d)))
end
def j2v:∀{ts:List Tm}{k p kk:Int}{i:Int}{j:Nat}{tc:Tm},j0M ts k i p kk=true→ts[j]?=some tc→allT tc p (j0n (j0g k) (i+j) kk)=true
 |[],k,p,kk,i,j,tc,h,hj=>by simp at hj
 |t::r,k,p,kk,i,j,tc,h,hj=>by
  simp only[j0M,AB] at h;cases j with
  |zero=>
   simp at hj;subst hj;simpa using h.1
  |succ j=>
   have:=j2v h.2 (by simpa using hj:r[j]?=some tc)
   rwa [show i+1+(j:Int)=i+((j+1:Nat):Int) by omega] at this
def j0q{k n:Int}{ls:List Lv}{ts:List Tm}{p kk:Int}(h:allT (.mk k n s ls ts) p kk=true):(1≤k∧k≤7)∧(ts.length:Int)=j0Y k∧j2Q (.mk k n s ls ts) kk=true∧j1j ls p=true∧j0M ts k 0 p kk=true:=by
 simpa[allT,and_assoc] using h
def j2q(b i d:Int):d≤j0n b i d∧j0n b i d≤d+1:=by
 unfold j0n;split<;>omega
def jvm(t:Tm):Int:=if anyT t=true then j7P t 0 else 0
def j2n(h:anyT t=true):j0A t≤2000∧allT t 4 1125899906842624=true:=by
 simpa[anyT,j0s] using h
def j5w(h:anyT t=true):depT t≤2000:=jbW (j2n h).1
def ju4(kind:Int):Tm→Nat
 | .mk k n s ls ts=>match ts with
  |[a,b]=>if(jn6 kind&&(anyT (.mk k n s ls [a,b])&&decide (k=kind)))=true then ju4 kind b+1 else 0
  |_=>0
open Go Go.Am Go.Gw
def jsk(kind:Int):Nat→Tm→Option (List Tm×Tm)
 |0,t=>some ([],t)
 |n+1,.mk k _ _ _ ts=>match ts with
  |[a,b]=>if k=kind then(jsk kind n b).map fun r=>(a::r.1,r.2) else none
  |_=>none
def jvn(t:Tm)(kind n:Int):Option (List Tm×Tm):=if(anyT t&&(jn6 kind&&decide (0≤n)))=true then jsk kind n.toNat t else none
def tz:Tm:=.mk 0 0 [] [] []
def splitV(o:Option (List Tm×Tm)):List PV:=match o with
 |some (l,b)=>[j8y l,encT b,bv true]
 |none=>[.sl true 0 [],encT tz,bv false]
open Go Go.Am Go.Gw
def jal(by_ from_:Int):PV:=.fn 257 [] [.cp [iv from_],.cp [iv by_]]
def jgJ(by_ from_:Int):Pf C1 209 [iv by_,iv from_] [jal by_ from_]:=by
 refine gR Tryz.func209 ?_;all_goals try conv=>whnf
 refine j0m rfl rfl rfl ?_;rfl
def movF(by_ from_:Int)(t:Tm)(d:Int):Option Tm:=if t.kind=1∧¬t.num<from_+d then some (.mk 1 (t.num+by_) [] [] []) else none
def putV(o:Option Tm):List PV:=match o with
 |some x=>[encT x,bv true]
 |none=>[encT tz,bv false]
def jlN(by_ from_:Int)(t:Tm)(v:PV)(h:TmP t v)(d:Int)(h1:i64 (from_+d))(h2:t.kind=1→i64 (t.num+by_)):Pf C1 257 [v,iv d,.cp [iv from_],.cp [iv by_]] (putV (movF by_ from_ t d)):=by
 obtain⟨k,n,s,ls,ts,b,z,xs,c,y,ys,rfl,rfl,-⟩:=h.open;simp only[Tm.kind,Tm.num] at h2;have hv:=jhz (n+by_);refine gR Tryz.func257 ?_;repeat'(first|refine gU ?_|apply gE<;>intro h|refine VArith.fits h1 ?_|refine VArith.fits (h2 (by omega)) ?_|refine gX hv ?_)<;>conv=>whnf
 ·have e:movF by_ from_ (.mk k n s ls ts) d=none:=by
   simp only[movF,Tm.kind,Tm.num];exact if_neg (by omega)
  rw[e];rfl
 ·have e:movF by_ from_ (.mk k n s ls ts) d=some (.mk 1 (n+by_) [] [] []):=by
   simp only[movF,Tm.kind,Tm.num];exact if_pos (by omega)
  rw[e];rfl
 ·have e:movF by_ from_ (.mk k n s ls ts) d=none:=by
   simp only[movF,Tm.kind,Tm.num];exact if_neg (by omega)
  rw[e];rfl
def jaJ(f:FuncId)(caps:List PV)(hp:caps.all (pur 7)=true)(left:Int)(h0 : -100000≤left)(h1:left≤100000)(t:Tm)(v:PV)(h:TmP t v):Finds C1 293 [.bp 0 0,v] [.box 254 [.fn f [] caps,iv left]] fun r st=>r=.ret [v]∧st=[.box 254 [.fn f [] caps,iv (left-j0A t)]]:=by
 have hn:=j2h t v h;have qA:0≤j0A t∧j0A t≤2001:=by rw[j2r];omega
 obtain⟨k,n,s,ls,ts,b,z,xs,c,y,ys,rfl,rfl,-⟩:=h.open;refine gR Tryz.func293 ?_;repeat'(first|refine gU ?_|refine j01 hn fun _=>?_|apply gK)<;>conv=>whnf
 have hA:∀x:Int,jf2 (.box 254 [.fn f [] caps,iv x]):=fun x=>jp7 (by
  show((true&&caps.all (pur 7))&&(true&&true))=true
  rw[hp];rfl)
 refine vret_take rfl ?_ ⟨rfl,rfl⟩;show(soIn _ (SO.box 254 [.fn f [] caps,iv _])&&true)=true
 rw[(hA _).2];rfl

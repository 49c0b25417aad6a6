/- Terms made anew (package bind). -/
import Derived.Test.YtbnodhcijeaceaaGreatDoorXTf
set_option linter.all false
set_option maxHeartbeats 4000000
set_option maxRecDepth 100000
namespace Go.Proofs.YtbnodhcijeaceaaGreatDoor
open Go Go.Am Go.Gw
def bldN(put:Tm→Int→Option Tm)(t:Tm)(d left:Int)(r:List Tm×Int):Tm×Int:=if left<0 then(tz,left) else match put t d with
 |some x=>(x,left-j0A x)
 |none=>if t.args.length=0 then(t,left-j0A t) else(.mk t.kind 0 [] [] r.1,r.2)
mutual
def bldF(put:Tm→Int→Option Tm):Tm→Int→Int→Tm×Int
 | .mk k n s ls ts,d,left=>bldN put (.mk k n s ls ts) d left (j1C put ts k 0 d (left-1))
def j1C(put:Tm→Int→Option Tm):List Tm→Int→Int→Int→Int→List Tm×Int
 |[],_,_,_,left=>([],left)
 |t::r,k,i,d,left=>((bldF put t (j0n (j0g k) i d) left).1::(j1C put r k (i+1) d (bldF put t (j0n (j0g k) i d) left).2).1,(j1C put r k (i+1) d (bldF put t (j0n (j0g k) i d) left).2).2)
end
section
variable{put:Tm→Int→Option Tm}{t x:Tm}{d left:Int}{r:List Tm×Int}
def j4z(h:left<0):bldN put t d left r=(tz,left):=if_pos h
def j5y(h:¬left<0)(hp:put t d=some x):bldN put t d left r=(x,left-j0A x):=by rw[bldN,if_neg h,hp]
def j4b(h:¬left<0)(hp:put t d=none)(ha:t.args.length=0):bldN put t d left r=(t,left-j0A t):=by rw[bldN,if_neg h,hp];exact if_pos ha
def j4c(h:¬left<0)(hp:put t d=none)(ha:¬t.args.length=0):bldN put t d left r=(.mk t.kind 0 [] [] r.1,r.2):=by rw[bldN,if_neg h,hp];exact if_neg ha
end
def j5l(t:Tm):0≤j0A t∧j0A t≤2001:=by rw[j2r];omega
mutual
theorem j4a(put:Tm→Int→Option Tm):∀(t:Tm) (d left:Int),-2001≤left→-2001≤(bldF put t d left).2∧(bldF put t d left).2≤left
 | .mk k n s ls ts,d,left,h=>by
  rw[bldF]
  by_cases h0:left<0
  ·rw[j4z h0];dsimp only;omega
  ·cases hp:put (.mk k n s ls ts) d with
   |some x=>
    rw[j5y h0 hp];have:=j5l x;dsimp only;omega
   |none=>
    by_cases ha:ts.length=0
    ·rw[j4b h0 hp ha];have:=j5l (.mk k n s ls ts);dsimp only;omega
    ·rw[j4c h0 hp ha];have:=jd6 put ts k 0 d (left-1) (by omega)
     dsimp only;omega
theorem jd6(put:Tm→Int→Option Tm):∀(ts:List Tm) (k i d left:Int),-2001≤left→-2001≤(j1C put ts k i d left).2∧(j1C put ts k i d left).2≤left
 |[],k,i,d,left,h=>by simp only[j1C];omega
 |t::r,k,i,d,left,h=>by
  simp only[j1C];have h1:=j4a put t (j0n (j0g k) i d) left h;have h2:=jd6 put r k (i+1) d (bldF put t (j0n (j0g k) i d) left).2 h1.1;omega
end
def j1L{k n:Int}{s:List UInt8}{ls:List Lv}{ts:List Tm}{kk:Int}(h:j2Q (.mk k n s ls ts) kk=true)(hk:k=1):0≤n∧n<kk:=by
 simp only[j2Q,if_pos hk,AB,decide_eq_true_eq] at h;exact⟨h.1,h.2.1⟩
def jhr{C:Cfg}{f:FuncId}{k0:Nat}{rs rs':List PV}{st st':Sto}{Q:AEnd→Sto→Prop}(hk:C.keep f=false)(hp:pubL C rs st=some (rs',st'))(hr:rs'.all (pur 8)=true)(h0:(st'.take k0).all (soIn fun i=>Nat.blt i k0)=true)(k:Q (.ret rs') (st'.take k0)):VRet C f k0 rs st Q:=by
 refine⟨rs',st'.take k0,?_,k⟩;simp only[aret,hk,hp,hr,h0,CP]
def jiU{m:Int}(h:i64 m):TmP (.mk 1 m [] [] []) (encT (.mk 1 m [] [] [])):=by
 rw[j2O];simp only[TmP,TmsP,LvsP,j7F,j8y];exact⟨_,_,_,_,_,_,rfl,.inr rfl,rfl,by simp,.inr rfl,rfl,by simp,by simp,h⟩
def joO{by_ from_:Int}{t:Tm}{d:Int}{x:Tm}(h:movF by_ from_ t d=some x)(hi:t.kind=1→i64 (t.num+by_)):TmP x (encT x):=by
 unfold movF at h;split at h
 ·rename_i hc;cases h;exact jiU (hi hc.1)
 ·cases h
def jfU(by_ from_:Int)(hK:0≤by_∧by_≤4194304)(wJ:0≤from_∧from_≤4194304)(t:Tm):∀v,TmP t v→∀p kk d left:Int,allT t p kk=true→0≤kk→kk+depT t≤2251799813685248→0≤d→d+depT t≤2251799813685248→-2001≤left→left≤2000 →
  Finds C1 256 [.bp 0 0,v,iv d] [.box 254 [jal by_ from_,iv left]] fun r st=>r=.ret [encT (bldF (movF by_ from_) t d left).1]∧st=[.box 254 [jal by_ from_,iv (bldF (movF by_ from_) t d left).2]]:=by
 induction t using Tm.ind with
 |_ k nn s ls ts ih=>
 intro v h p kk d left wE hJ qG qH kH wI gI;obtain⟨wD,qF,gB,-,qE⟩:=j0q wE;have gA:=jlN by_ from_ _ v h d (by unfold i64;omega) (fun e=>by have:=j1L gB e;simp only[Tm.num];unfold i64;omega)
 have gD:=j6p _ v h true 0;obtain⟨_,_,_,_,_,b,z,xs,c,y,ys,⟨rfl,rfl,rfl,rfl,rfl⟩,rfl,hz,kI,hlen,kK,hy,wF,hlen2,wH,qI⟩:=h.open;rw[depT] at qG kH;cases hm:movF by_ from_ (.mk k nn s ls ts) d with
 |some x=>
  rw[hm] at gA;obtain⟨k9,n9,s9,b9,z9,x9,c9,y9,ys9,wB⟩:=j06 x;simp only[putV] at gA;rw[wB] at gA;refine gR Tryz.func256 ?_;repeat'(first|refine gU ?_|apply gE<;>intro h|apply gM<;>intro h|refine j01 gA fun _=>?_|apply gK)<;>conv=>whnf
  ·rw[bldF,j4z (by assumption)]
   exact⟨rfl,rfl⟩
  ·have e:bldF (movF by_ from_) (.mk k nn s ls ts) d left=(x,left-j0A x):=by rw[bldF,j5y (by assumption) hm]
   have hG:TmP x (encT x):=joO hm (fun e=>by have:=j1L gB e;simp only[Tm.num];unfold i64;omega)
   have kG:=j5l x;have qD:=jaJ 257 [.cp [iv from_],.cp [iv by_]] rfl left (by omega) (by omega) x _ hG
   rw[wB] at qD;refine j0K rfl rfl rfl rfl rfl rfl (Finds.mono qD ?_);rintro _ _ ⟨rfl,rfl⟩;refine j1z rfl ?_;repeat'(first|refine gU ?_|apply gE<;>intro h|apply gM<;>intro h|apply gK)<;>conv=>whnf
   rw[e];exact⟨by rw[wB];rfl,rfl⟩
 |none=>
  rw[hm] at gA;simp only[putV] at gA;refine gR Tryz.func256 ?_;have qD:=jaJ 257 [.cp [iv from_],.cp [iv by_]] rfl left (by omega) (by omega) _ _ (jeq _ _ h)
  have kG:=j5l (.mk k nn s ls ts);obtain⟨k9,n9,s9,b9,z9,x9,c9,y9,ys9,wB⟩:=j06 (.mk k nn s ls ts);rw[wB] at gD qD;repeat'(first|refine gU ?_|apply gE<;>intro h|apply gM<;>intro h|refine j01 gA fun _=>?_|refine gX gD ?_|apply gK)<;>conv=>whnf
  ·rw[bldF,j4z (by assumption)]
   exact⟨rfl,rfl⟩
  ·have e:bldF (movF by_ from_) (.mk k nn s ls ts) d left=(.mk k nn s ls ts,left-j0A (.mk k nn s ls ts)):=by
    rw[bldF,j4b (by assumption) hm]
    show ts.length=0
    omega
   refine j0K rfl rfl rfl rfl rfl rfl (Finds.mono qD ?_);rintro _ _ ⟨rfl,rfl⟩;refine j1z rfl ?_;repeat'(first|refine gU ?_|apply gE<;>intro h|apply gM<;>intro h|apply gK)<;>conv=>whnf
   rw[e];exact⟨by rw[wB];rfl,rfl⟩
  ·have wC:¬ts.length=0:=by omega
   have e:bldF (movF by_ from_) (.mk k nn s ls ts) d left=(.mk k 0 [] [] (j1C (movF by_ from_) ts k 0 d (left-1)).1,(j1C (movF by_ from_) ts k 0 d (left-1)).2):=by
    rw[bldF,j4c (by assumption) hm wC]
    rfl
   rw[e];refine j04 (G:=Nat×Int×List Tm) (fun g=>[(53,iv g.1)]) (fun g=>match g.2.2 with
     |[]=>[.box 254 [jal by_ from_,iv g.2.1],.box 25 [iv k,iv nn,sv s,.sl b z xs,.sl c y ys],.box 25 zTm,.box 25 zTm,.box 25 [iv k,iv 0,sv [],.sl true 0 [],.sl true 0 []]]
     |a::r=>[.box 254 [jal by_ from_,iv g.2.1],.box 25 [iv k,iv nn,sv s,.sl b z xs,.sl c y ys],.box 25 zTm,.box 25 zTm,.box 25 [iv k,iv 0,sv [],.sl true 0 [],.ms 6 (r.length+1)],.dead,.row false 25 5 ((a::r).map encT)]) (fun g=>g.1≤ts.length∧g.2.2.length=g.1∧-2001≤g.2.1∧g.2.1≤2000∧(g.2.2++(j1C (movF by_ from_) (ts.drop g.1) k g.1 d g.2.1).1,(j1C (movF by_ from_) (ts.drop g.1) k g.1 d g.2.1).2)=j1C (movF by_ from_) ts k 0 d (left-1)) (fun g=>ts.length-g.1) (0,left-1,[]) ⟨by omega,rfl,by dsimp only;omega,by dsimp only;omega,rfl⟩ rfl rfl ?_
   rintro⟨j,lf,don⟩ ⟨hj,kE,hB,gC,hA⟩;dsimp only at hj kE hB gC hA;have wA:∀(gF:j<ts.length),∃tc,ts[j]?=some tc∧∃v,ys[j]?=some v∧TmP tc v∧Pf C1 294 [iv k,iv j,iv d] [iv (j0n (j0g k) j d)] ∧
     (Finds C1 256 [.bp 0 0,v,iv (j0n (j0g k) j d)] [.box 254 [jal by_ from_,iv lf]] fun r st=>r=.ret [encT (bldF (movF by_ from_) tc (j0n (j0g k) j d) lf).1]∧st=[.box 254 [jal by_ from_,iv (bldF (movF by_ from_) tc (j0n (j0g k) j d) lf).2]]):=fun gF=>by
    obtain⟨tc,qB⟩:∃tc,ts[j]?=some tc:=⟨_,AA gF⟩;obtain⟨v,hv,hl⟩:=wF.at qB;have qC:=AE qB;have hH:=j6x qC;have hI:=j2v qE qB;have qJ:=j2q (j0g k) (0+j) kk;have kJ:=j2q (j0g k) j d;exact⟨tc,qB,v,hv,hl,j8u k j d (by omega) qH wD.1 (by omega),ih _ qC _ hl p _ _ lf hI (by omega) (by omega) (by omega) (by omega) hB gC⟩
   cases don with
   |nil=>
    obtain rfl:j=0:=kE.symm;repeat'(first|refine gU ?_|apply gE<;>intro h|apply gM<;>intro h|apply gK)<;>conv=>whnf
    ·obtain⟨tc,qB,v,hv,hl,hE,qA⟩:=wA (by omega)
     have hD:=j4a (movF by_ from_) tc (j0n (j0g k) (0:Nat) d) lf hB;rw[drop_at qB] at hA;simp only[j1C] at hA;generalize gH:bldF (movF by_ from_) tc (j0n (j0g k) (0:Nat) d) lf=bx at qA hD hA;obtain⟨bt,bl⟩:=bx;obtain⟨k8,n8,s8,b8,z8,x8,c8,y8,ys8,hC⟩:=j06 bt;dsimp only at qA hD hA;rw[hC] at qA;obtain⟨k1,n1,s1,l1,t1,b2,z1,x1,c1,y1,ys1,rfl,rfl,-⟩:=hl.open;repeat'(first|refine gU ?_|apply gE<;>intro h|apply gM<;>intro h|refine VIdx.mk _ hv ?_|refine gZ hy ?_|refine j01 hE fun _=>?_|apply gK)<;>conv=>whnf
     refine j0K rfl rfl rfl rfl rfl rfl (Finds.mono qA ?_);rintro _ _ ⟨rfl,rfl⟩;refine j1z rfl ?_;repeat'(first|refine gU ?_|apply gE<;>intro h|apply gM<;>intro h|apply gK)<;>conv=>whnf
     have er:[bt].map encT=[.ag [iv k8,iv n8,sv s8,.sl b8 z8 x8,.sl c8 y8 ys8]]:=by rw[BC,hC];rfl
     exact VAgain.mk _ rfl _ (j0B (.cons (j02 rfl rfl) (.cons (j02 rfl rfl) (.cons (j02 rfl rfl) (.cons (j02 rfl rfl) (.cons (j02 rfl rfl) (.cons (j02 rfl rfl) (.cons (j05 rfl) .nil))))))) (.cons (j02 rfl rfl) (.cons (j02 rfl rfl) (.cons (j02 rfl rfl) (.cons (j02 rfl rfl) (.cons (j02 rfl rfl) (.cons j0l (.cons (j05 rfl) .nil))))))) rfl rfl rfl rfl rfl) ⟨(1,bl,[bt]),⟨by omega,rfl,by dsimp only;omega,by dsimp only;omega,hA⟩,by dsimp only;omega,congrArg (fun t=>(⟨_,[.box _ _,.box _ _,.box _ zTm,.box _ zTm,.box _ [iv k,iv 0,sv [],.sl true 0 [],.ms 6 1],.dead,.row false _ 5 t]⟩:AS)) er.symm⟩
    ·exact absurd (by assumption:¬_) (by omega)
   |cons a r=>
    have kF:((a::r).map encT).length=r.length+1:=by simp
    have wG:r.length+1=j:=kE;repeat'(first|refine gU ?_|apply gE<;>intro h|apply gM<;>intro h|apply gK)<;>conv=>whnf
    ·obtain⟨tc,qB,v,hv,hl,hE,qA⟩:=wA (by omega)
     have hD:=j4a (movF by_ from_) tc (j0n (j0g k) j d) lf hB;rw[drop_at qB] at hA;simp only[j1C] at hA;generalize gH:bldF (movF by_ from_) tc (j0n (j0g k) j d) lf=bx at qA hD hA;obtain⟨bt,bl⟩:=bx;obtain⟨k8,n8,s8,b8,z8,x8,c8,y8,ys8,hC⟩:=j06 bt;dsimp only at qA hD hA;rw[hC] at qA;obtain⟨k1,n1,s1,l1,t1,b2,z1,x1,c1,y1,ys1,rfl,rfl,-⟩:=hl.open;repeat'(first|refine gU ?_|apply gE<;>intro h|apply gM<;>intro h|refine VIdx.mk _ hv ?_|refine gZ hy ?_|refine j01 hE fun _=>?_|apply gK)<;>conv=>whnf
     refine j0K rfl rfl rfl rfl rfl rfl (Finds.mono qA ?_);rintro _ _ ⟨rfl,rfl⟩;refine j1z rfl ?_;have hF:((a::r).map encT++[PV.ag [iv k8,iv n8,sv s8,.sl b8 z8 x8,.sl c8 y8 ys8]]).all (pur 8)=true:=by
      rw[←hC,show(a::r).map encT++[encT bt]=(a::r++[bt]).map encT by simp]
      exact j0D _ 6
     repeat'(first|refine gU ?_|apply gE<;>intro h|apply gM<;>intro h|refine VOk.mk (j0N (w:=80) (r:=140737488355328) kF rfl rfl rfl rfl (by simp only[AC,AG];omega) (by simp only[AC,AG];omega)) ?_|apply gK)<;>conv=>whnf
     have er:(a::(r++[bt])).map encT=(a::r).map encT++[.ag [iv k8,iv n8,sv s8,.sl b8 z8 x8,.sl c8 y8 ys8]]:=by rw[←hC];simp
     have el:(r++[bt]).length+1=r.length+1+1:=by simp
     refine VAgain.mk _ rfl _ (j0B (.cons (j02 rfl rfl) (.cons (j02 rfl rfl) (.cons (j02 rfl rfl) (.cons (j02 rfl rfl) (.cons (j02 rfl rfl) (.cons j0l (.cons (j05 hF) (.cons (j02 rfl rfl) .nil)))))))) (.cons (j02 rfl rfl) (.cons (j02 rfl rfl) (.cons (j02 rfl rfl) (.cons (j02 rfl rfl) (.cons (j02 rfl rfl) (.cons j0l (.cons (j05 hF) .nil))))))) rfl rfl rfl rfl rfl) ⟨(j+1,bl,a::(r++[bt])),⟨by omega,by simp only[AC,AL,AG];omega,by dsimp only;omega,by dsimp only;omega,?_⟩,by dsimp only;omega,?_⟩
     ·dsimp only;rw[←hA,GL];simp
     ·dsimp only;rw[er,el];rfl
    ·have gG:j=ts.length:=by omega
     rw[gG,BU] at hA;simp only[j1C,BF] at hA;rw[←hA];refine jhr rfl (j03 (j2V (j03 rfl (j03 rfl (j03 rfl (j03 rfl (j03 (j0p rfl kF.symm (j0D _ 4)) j0h)))))) j0h) rfl rfl ⟨?_,rfl⟩;rw[j2O,j1V (by simp)]
     rfl

/- Terms made anew with others in their variables' places. -/
import Derived.Test.YtbnodhcijeaceaaGreatDoorXTw
set_option linter.all false
set_option maxHeartbeats 4000000
set_option maxRecDepth 100000
namespace Go.Proofs.YtbnodhcijeaceaaGreatDoor
open Go Go.Am Go.Gw
def jlQ{k n:Int}{s:List UInt8}{ls:List Lv}{ts:List Tm}{kk:Int}(h:j2Q (.mk k n s ls ts) kk=true)(hk:¬k=1):n=0:=by
 simp only[j2Q,if_neg hk] at h;split at h
 ·simp only[AB,decide_eq_true_eq] at h;exact h.1
 ·simp only[AB,decide_eq_true_eq] at h;exact h.1
def jhK(us:List Tm)(ab:Bool)(az:Nat)(axs:List PV)(wI:az=5∨axs=[])(gD:TmsP us axs)(hG:us.length≤1048576)(has:∀a∈us,anyT a=true)(t:Tm):∀v,TmP t v→∀p kk d left:Int,allT t p kk=true→0≤kk→kk+depT t≤2251799813685248→0≤d→d+depT t≤4194304→-2001≤left→left≤2000 →
  Finds C1 256 [.bp 0 0,v,iv d] [.box 254 [insP ab az axs,iv left]] fun r st=>r=.ret [encT (bldF (insF us) t d left).1]∧st=[.box 254 [insP ab az axs,iv (bldF (insF us) t d left).2]]:=by
 induction t using Tm.ind with
 |_ k nn s ls ts ih=>
 intro v h p kk d left hE qH kH hF kI hK wJ;have hW:=TmP.w h;obtain⟨kE,wF,gB,-,kF⟩:=j0q hE;have hH:0≤nn∧nn≤2251799813685248:=by
  by_cases e:k=1
  ·have:=j1L gB e;omega
  ·have:nn=0:=jlQ gB e;omega
 have gA:=joj us ab az axs wI gD hG has _ v h d hF (by omega) hH
 have wD:=j6p _ v h true 0;obtain⟨_,_,_,_,_,b,z,xs,c,y,ys,⟨rfl,rfl,rfl,rfl,rfl⟩,rfl,hz,kJ,hlen,wK,hy,qG,hlen2,gI,qJ⟩:=h.open;rw[depT] at kH kI;cases hm:insF us (.mk k nn s ls ts) d with
 |some x=>
  rw[hm] at gA;obtain⟨k9,n9,s9,b9,z9,x9,c9,y9,ys9,wB⟩:=j06 x;simp only[putV] at gA;rw[wB] at gA;refine gR Tryz.func256 ?_;repeat'(first|refine gU ?_|apply gE<;>intro h|apply gM<;>intro h|refine j01 gA fun _=>?_|apply gK)<;>conv=>whnf
  ·rw[bldF,j4z (by assumption)]
   exact⟨rfl,rfl⟩
  ·have e:bldF (insF us) (.mk k nn s ls ts) d left=(x,left-j0A x):=by rw[bldF,j5y (by assumption) hm]
   have gG:TmP x (encT x):=jjQ gD.ws has hG _ d x hW ⟨p,kk,hE,qH,by omega⟩ hF (by omega) hm
   have wG:=j5l x;have qD:=jaJ 213 [.cp [iv axs.length],.cp [.sl ab az axs]] rfl left (by omega) (by omega) x _ gG
   rw[wB] at qD;refine j0K rfl rfl rfl rfl rfl rfl (Finds.mono qD ?_);rintro _ _ ⟨rfl,rfl⟩;refine j1z rfl ?_;repeat'(first|refine gU ?_|apply gE<;>intro h|apply gM<;>intro h|apply gK)<;>conv=>whnf
   rw[e];exact⟨by rw[wB];rfl,rfl⟩
 |none=>
  rw[hm] at gA;simp only[putV] at gA;refine gR Tryz.func256 ?_;have qD:=jaJ 213 [.cp [iv axs.length],.cp [.sl ab az axs]] rfl left (by omega) (by omega) _ _ (jeq _ _ h)
  have wG:=j5l (.mk k nn s ls ts);obtain⟨k9,n9,s9,b9,z9,x9,c9,y9,ys9,wB⟩:=j06 (.mk k nn s ls ts);rw[wB] at wD qD;repeat'(first|refine gU ?_|apply gE<;>intro h|apply gM<;>intro h|refine j01 gA fun _=>?_|refine gX wD ?_|apply gK)<;>conv=>whnf
  ·rw[bldF,j4z (by assumption)]
   exact⟨rfl,rfl⟩
  ·have e:bldF (insF us) (.mk k nn s ls ts) d left=(.mk k nn s ls ts,left-j0A (.mk k nn s ls ts)):=by
    rw[bldF,j4b (by assumption) hm]
    show ts.length=0
    omega
   refine j0K rfl rfl rfl rfl rfl rfl (Finds.mono qD ?_);rintro _ _ ⟨rfl,rfl⟩;refine j1z rfl ?_;repeat'(first|refine gU ?_|apply gE<;>intro h|apply gM<;>intro h|apply gK)<;>conv=>whnf
   rw[e];exact⟨by rw[wB];rfl,rfl⟩
  ·have wC:¬ts.length=0:=by omega
   have e:bldF (insF us) (.mk k nn s ls ts) d left=(.mk k 0 [] [] (j1C (insF us) ts k 0 d (left-1)).1,(j1C (insF us) ts k 0 d (left-1)).2):=by
    rw[bldF,j4c (by assumption) hm wC]
    rfl
   rw[e];refine j04 (G:=Nat×Int×List Tm) (fun g=>[(53,iv g.1)]) (fun g=>match g.2.2 with
     |[]=>[.box 254 [insP ab az axs,iv g.2.1],.box 25 [iv k,iv nn,sv s,.sl b z xs,.sl c y ys],.box 25 zTm,.box 25 zTm,.box 25 [iv k,iv 0,sv [],.sl true 0 [],.sl true 0 []]]
     |a::r=>[.box 254 [insP ab az axs,iv g.2.1],.box 25 [iv k,iv nn,sv s,.sl b z xs,.sl c y ys],.box 25 zTm,.box 25 zTm,.box 25 [iv k,iv 0,sv [],.sl true 0 [],.ms 6 (r.length+1)],.dead,.row false 25 5 ((a::r).map encT)]) (fun g=>g.1≤ts.length∧g.2.2.length=g.1∧-2001≤g.2.1∧g.2.1≤2000∧(g.2.2++(j1C (insF us) (ts.drop g.1) k g.1 d g.2.1).1,(j1C (insF us) (ts.drop g.1) k g.1 d g.2.1).2)=j1C (insF us) ts k 0 d (left-1)) (fun g=>ts.length-g.1) (0,left-1,[]) ⟨by omega,rfl,by dsimp only;omega,by dsimp only;omega,rfl⟩ rfl rfl ?_
   rintro⟨j,lf,don⟩ ⟨hj,wE,hB,gC,hA⟩;dsimp only at hj wE hB gC hA;have wA:∀(kG:j<ts.length),∃tc,ts[j]?=some tc∧∃v,ys[j]?=some v∧TmP tc v∧Pf C1 294 [iv k,iv j,iv d] [iv (j0n (j0g k) j d)] ∧
     (Finds C1 256 [.bp 0 0,v,iv (j0n (j0g k) j d)] [.box 254 [insP ab az axs,iv lf]] fun r st=>r=.ret [encT (bldF (insF us) tc (j0n (j0g k) j d) lf).1]∧st=[.box 254 [insP ab az axs,iv (bldF (insF us) tc (j0n (j0g k) j d) lf).2]]):=fun kG=>by
    obtain⟨tc,qB⟩:∃tc,ts[j]?=some tc:=⟨_,AA kG⟩;obtain⟨v,hv,hl⟩:=qG.at qB;have qC:=AE qB;have hI:=j6x qC;have hJ:=j2v kF qB;have qK:=j2q (j0g k) (0+j) kk;have kK:=j2q (j0g k) j d;exact⟨tc,qB,v,hv,hl,j8u k j d (by omega) hF kE.1 (by omega),ih _ qC _ hl p _ _ lf hJ (by omega) (by omega) (by omega) (by omega) hB gC⟩
   cases don with
   |nil=>
    obtain rfl:j=0:=wE.symm;repeat'(first|refine gU ?_|apply gE<;>intro h|apply gM<;>intro h|apply gK)<;>conv=>whnf
    ·obtain⟨tc,qB,v,hv,hl,qE,qA⟩:=wA (by omega)
     have hD:=j4a (insF us) tc (j0n (j0g k) (0:Nat) d) lf hB;rw[drop_at qB] at hA;simp only[j1C] at hA;generalize qI:bldF (insF us) tc (j0n (j0g k) (0:Nat) d) lf=bx at qA hD hA;obtain⟨bt,bl⟩:=bx;obtain⟨k8,n8,s8,b8,z8,x8,c8,y8,ys8,hC⟩:=j06 bt;dsimp only at qA hD hA;rw[hC] at qA;obtain⟨k1,n1,s1,l1,t1,b2,z1,x1,c1,y1,ys1,rfl,rfl,-⟩:=hl.open;repeat'(first|refine gU ?_|apply gE<;>intro h|apply gM<;>intro h|refine VIdx.mk _ hv ?_|refine gZ hy ?_|refine j01 qE fun _=>?_|apply gK)<;>conv=>whnf
     refine j0K rfl rfl rfl rfl rfl rfl (Finds.mono qA ?_);rintro _ _ ⟨rfl,rfl⟩;refine j1z rfl ?_;repeat'(first|refine gU ?_|apply gE<;>intro h|apply gM<;>intro h|apply gK)<;>conv=>whnf
     have er:[bt].map encT=[.ag [iv k8,iv n8,sv s8,.sl b8 z8 x8,.sl c8 y8 ys8]]:=by rw[BC,hC];rfl
     exact VAgain.mk _ rfl _ (j0B (.cons (j02 rfl rfl) (.cons (j02 rfl rfl) (.cons (j02 rfl rfl) (.cons (j02 rfl rfl) (.cons (j02 rfl rfl) (.cons (j02 rfl rfl) (.cons (j05 rfl) .nil))))))) (.cons (j02 rfl rfl) (.cons (j02 rfl rfl) (.cons (j02 rfl rfl) (.cons (j02 rfl rfl) (.cons (j02 rfl rfl) (.cons j0l (.cons (j05 rfl) .nil))))))) rfl rfl rfl rfl rfl) ⟨(1,bl,[bt]),⟨by omega,rfl,by dsimp only;omega,by dsimp only;omega,hA⟩,by dsimp only;omega,congrArg (fun t=>(⟨_,[.box _ _,.box _ _,.box _ zTm,.box _ zTm,.box _ [iv k,iv 0,sv [],.sl true 0 [],.ms 6 1],.dead,.row false _ 5 t]⟩:AS)) er.symm⟩
    ·exact absurd (by assumption:¬_) (by omega)
   |cons a r=>
    have gF:((a::r).map encT).length=r.length+1:=by simp
    have wH:r.length+1=j:=wE;repeat'(first|refine gU ?_|apply gE<;>intro h|apply gM<;>intro h|apply gK)<;>conv=>whnf
    ·obtain⟨tc,qB,v,hv,hl,qE,qA⟩:=wA (by omega)
     have hD:=j4a (insF us) tc (j0n (j0g k) j d) lf hB;rw[drop_at qB] at hA;simp only[j1C] at hA;generalize qI:bldF (insF us) tc (j0n (j0g k) j d) lf=bx at qA hD hA;obtain⟨bt,bl⟩:=bx;obtain⟨k8,n8,s8,b8,z8,x8,c8,y8,ys8,hC⟩:=j06 bt;dsimp only at qA hD hA;rw[hC] at qA;obtain⟨k1,n1,s1,l1,t1,b2,z1,x1,c1,y1,ys1,rfl,rfl,-⟩:=hl.open;repeat'(first|refine gU ?_|apply gE<;>intro h|apply gM<;>intro h|refine VIdx.mk _ hv ?_|refine gZ hy ?_|refine j01 qE fun _=>?_|apply gK)<;>conv=>whnf
     refine j0K rfl rfl rfl rfl rfl rfl (Finds.mono qA ?_);rintro _ _ ⟨rfl,rfl⟩;refine j1z rfl ?_;have qF:((a::r).map encT++[PV.ag [iv k8,iv n8,sv s8,.sl b8 z8 x8,.sl c8 y8 ys8]]).all (pur 8)=true:=by
      rw[←hC,show(a::r).map encT++[encT bt]=(a::r++[bt]).map encT by simp]
      exact j0D _ 6
     repeat'(first|refine gU ?_|apply gE<;>intro h|apply gM<;>intro h|refine VOk.mk (j0N (w:=80) (r:=140737488355328) gF rfl rfl rfl rfl (by simp only[AC,AG];omega) (by simp only[AC,AG];omega)) ?_|apply gK)<;>conv=>whnf
     have er:(a::(r++[bt])).map encT=(a::r).map encT++[.ag [iv k8,iv n8,sv s8,.sl b8 z8 x8,.sl c8 y8 ys8]]:=by rw[←hC];simp
     have el:(r++[bt]).length+1=r.length+1+1:=by simp
     refine VAgain.mk _ rfl _ (j0B (.cons (j02 rfl rfl) (.cons (j02 rfl rfl) (.cons (j02 rfl rfl) (.cons (j02 rfl rfl) (.cons (j02 rfl rfl) (.cons j0l (.cons (j05 qF) (.cons (j02 rfl rfl) .nil)))))))) (.cons (j02 rfl rfl) (.cons (j02 rfl rfl) (.cons (j02 rfl rfl) (.cons (j02 rfl rfl) (.cons (j02 rfl rfl) (.cons j0l (.cons (j05 qF) .nil))))))) rfl rfl rfl rfl rfl) ⟨(j+1,bl,a::(r++[bt])),⟨by omega,by simp only[AC,AL,AG];omega,by dsimp only;omega,by dsimp only;omega,?_⟩,by dsimp only;omega,?_⟩
     ·dsimp only;rw[←hA,GL];simp
     ·dsimp only;rw[er,el];rfl
    ·have gH:j=ts.length:=by omega
     rw[gH,BU] at hA;simp only[j1C,BF] at hA;rw[←hA];refine jhr rfl (j03 (j2V (j03 rfl (j03 rfl (j03 rfl (j03 rfl (j03 (j0p rfl gF.symm (j0D _ 4)) j0h)))))) j0h) rfl rfl ⟨?_,rfl⟩;rw[j2O,j1V (by simp)]
     rfl

/- Terms with others in their variables' places: bind.Inst. -/
import Derived.Test.YtbnodhcijeaceaaGreatDoorXTj
set_option linter.all false
set_option maxHeartbeats 2000000
set_option maxRecDepth 100000
namespace Go.Proofs.YtbnodhcijeaceaaGreatDoor
open Go Go.Am Go.Gw
def j7B{C:Cfg}{f:FuncId}{args args' rs:List PV}{st st':Sto}{K:AEnd→Sto→Prop}(hw:handed C f args st=some (args',st'))(hp:args'.all (pur 8)=true)(h:Pf C f args' rs)(hr:rs.all (pur 8)=true)(k:K (.ret rs) st'):VCall C f args st K:=by
 obtain⟨r,st1,rfl,N,hN⟩:=h;refine⟨.ret rs,st',k,N,fun m hm=>?_⟩
 have h4:j6y (.ret rs)=true:=hr;rw[j2m hw];simp only[hp,hN m hm,h4]
def idxT(p:Tm→Bool):List Tm→Nat→Int
 |[],_=>-1
 |t::r,i=>if p t=true then i else idxT p r (i+1)
def jeA(p:Tm→Bool):∀(ts:List Tm) (i:Nat),decide (0≤idxT p ts i)=ts.any p
 |[],i=>by simp[idxT]
 |t::r,i=>by
  rw[idxT,DT]
  by_cases h:p t=true
  ·rw[if_pos h,h];simp
  ·rw[if_neg h,jeA p r,CM.2 h];simp
def jgz(ts:List Tm)(b:Bool)(z:Nat)(xs:List PV)(hz:z=5∨xs=[])(gA:TmsP ts xs)(qD:ts.length≤1759218604441):Pf C1 254 [.sl b z xs,.fn 212 [] []] [iv (idxT (fun t=>!anyT t) ts 0)]:=by
 have hlen:=gA.len;refine gR Tryz.func254 ?_;all_goals try conv=>whnf
 refine j04 (G:=Nat) (fun i=>[(8,iv i)]) (fun _=>_) (fun i=>i≤ts.length∧idxT (fun t=>!anyT t) (ts.drop i) i=idxT (fun t=>!anyT t) ts 0) (fun i=>ts.length-i) 0 ⟨by omega,rfl⟩ rfl rfl ?_
 rintro i ⟨hi,hA⟩;dsimp only at hi hA⊢;repeat'(first|refine gU ?_|apply gE<;>intro h)<;>conv=>whnf
 ·have qB:i<ts.length:=by omega
  obtain⟨tc,wA⟩:∃tc,ts[i]?=some tc:=⟨_,AA qB⟩;obtain⟨v,hv,hl⟩:=gA.at wA;have hw:=jef tc v hl;obtain⟨k1,n1,s1,l1,t1,b1,z1,x1,c1,y1,ys1,rfl,rfl,wC,hC,hB,gC,hD,wB,qA,gB,qC⟩:=hl.open;rw[drop_at wA,idxT] at hA;repeat'(first|refine gU ?_|apply gM<;>intro h|refine VIdx.mk _ hv ?_|refine gZ hz ?_|refine gX hw ?_)<;>conv=>whnf
  ·rw[if_neg (by simp_all)] at hA
   exact VAgain.mk _ rfl _ (j0a rfl rfl rfl) ⟨i+1,⟨qB,hA⟩,by omega,rfl⟩
  ·rw[if_pos (by simp_all)] at hA
   rw[←hA]
 ·rw[AV (by omega),idxT] at hA
  rw[←hA]
def jfQ(ts:List Tm)(b:Bool)(z:Nat)(xs:List PV)(hz:z=5∨xs=[])(hA:TmsP ts xs)(qA:ts.length≤1759218604441):Pf C1 197 [.sl b z xs,.fn 212 [] []] [bv (!ts.all anyT)]:=by
 have hi:=jgz ts b z xs hz hA qA;have e:decide (0≤idxT (fun t=>!anyT t) ts 0) = !ts.all anyT:=by
  rw[jeA];clear hi hA qA
  induction ts with
  |nil=>rfl
  |cons t r ih=>
   rw[DT,BH];cases anyT t<;>simp_all
 refine gR Tryz.func197 ?_;repeat'(first|refine gU ?_|refine gX hi ?_)<;>conv=>whnf
 rw[←e]
def jgH(us:List Tm)(ab:Bool)(az:Nat)(axs:List PV)(gB:az=5∨axs=[])(hA:TmsP us axs)(wA:us.length≤1048576)(has:∀a∈us,anyT a=true)(t:Tm)(v:PV)(h:TmP t v)(p kk:Int)(qA:allT t p kk=true)(qB:0≤kk)(hB:kk+depT t≤2251799813685248)(hd:depT t≤2000):
  Pf C1 208 [v,insP ab az axs] (putV (j3K (insF us) t)):=by
 have hb:=jhK us ab az axs gB hA wA has t v h p kk 0 2000 qA qB hB (by omega) (by omega) (by omega) (by omega)
 have hl:=j4a (insF us) t 0 2000 (by omega)
 have hm:j3K (insF us) t=if(bldF (insF us) t 0 2000).2<0 then none else some (bldF (insF us) t 0 2000).1:=rfl
 generalize bldF (insF us) t 0 2000=bx at hb hl hm;obtain⟨bt,bl⟩:=bx;obtain⟨k8,n8,s8,b8,z8,x8,c8,y8,ys8,gA⟩:=j06 bt;dsimp only at hb hl hm;rw[gA] at hb;obtain⟨k,nn,s,ls,ts,b,z,xs,c,y,ys,rfl,rfl,-⟩:=h.open;refine gR Tryz.func208 ?_;all_goals try conv=>whnf
 refine j0K rfl rfl rfl rfl rfl rfl (Finds.mono hb ?_);rintro _ _ ⟨rfl,rfl⟩;refine j1z rfl ?_;repeat'(first|refine gU ?_|apply gE<;>intro h)<;>conv=>whnf
 ·have e:j3K (insF us) (.mk k nn s ls ts)=none:=by rw[hm,if_pos (by assumption)]
  rw[e];rfl
 ·have e:j3K (insF us) (.mk k nn s ls ts)=some bt:=by rw[hm,if_neg (by assumption)]
  rw[e];simp only[putV];rw[gA];rfl
def InstF(t:Tm)(us:List Tm):Option Tm:=if anyT t=true∧us.length≤1048576∧us.all anyT=true then j3K (insF us) t else none
def j7k(t:Tm)(v:PV)(h:TmP t v)(us:List Tm)(b:Bool)(z:Nat)(xs:List PV)(hz:z=5∨xs=[])(qA:TmsP us xs)(wA:us.length≤1759218604441):Pf C1 157 [v,.sl b z xs] (putV (InstF t us)):=by
 have hr:=j5x t v h;have hc:=jfQ us b z xs hz qA wA;have hlen:=qA.len;have hm:=fun(e1:anyT t=true) (e2:us.length≤1048576) (e3:us.all anyT=true)=>jgH us b z xs hz qA e2 (AF.1 e3) t v h 4 _ (j2n e1).2 (by omega) (by have:=j5w e1;omega) (j5w e1)
 have off:¬(anyT t=true∧us.length≤1048576∧us.all anyT=true)→putV (InstF t us)=[encT tz,bv false]:=fun e=>by
  rw[InstF,if_neg e];rfl
 have on:(anyT t=true∧us.length≤1048576∧us.all anyT=true)→InstF t us=j3K (insF us) t:=fun e=>if_pos e
 obtain⟨k,nn,s,ls,ts,b0,z0,x0,c,y,ys,rfl,rfl,-⟩:=h.open;refine gR Tryz.func157 ?_;repeat'(first|refine gU ?_|apply gE<;>intro h|apply gM<;>intro h|refine gX hr ?_|refine gX hc ?_)<;>conv=>whnf
 ·rw[off (fun e=>by omega)]
  rfl
 ·have e1:anyT (.mk k nn s ls ts)=true:=by assumption
  have e2:us.length≤1048576:=by omega
  have hA:=hm e1 e2 h;rw[on ⟨e1,e2,h⟩];generalize j3K (insF us) (.mk k nn s ls ts)=mo at hA;cases mo with
  |none=>
   simp only[putV] at hA⊢;refine j7B rfl rfl hA rfl ?_;repeat'(refine gU ?_)<;>conv=>whnf
   rfl
  |some x=>
   simp only[putV] at hA⊢;obtain⟨k8,n8,s8,b8,z8,x8,c8,y8,ys8,gA⟩:=j06 x;rw[gA] at hA⊢;refine j7B rfl rfl hA rfl ?_;repeat'(refine gU ?_)<;>conv=>whnf
   rfl
 ·rw[off (fun e=>by rw[e.2.2] at h;cases h)]
  rfl
 ·rw[off (fun e=>by rw[e.1] at h;cases h)]
  rfl

/- Terms with others in their variables' places: bind.Inst. -/
import Derived.Test.YtnfbeplfnblgjaaGreatDoorZTj
set_option linter.all false
set_option maxHeartbeats 2000000
set_option maxRecDepth 100000
namespace Go.Proofs.YtnfbeplfnblgjaaGreatDoor
open Go Go.Am Go.Gw
theorem j0K{C:Cfg}{f:FuncId}{args args' rs:List PV}{st st':Sto}{K:AEnd→Sto→Prop}(hw:handed C f args st=some (args',st'))(hp:args'.all (pur 8)=true)(h:Pf C f args' rs)(hr:rs.all (pur 8)=true)(k:K (.ret rs) st'):VCall C f args st K:=by
 obtain⟨r,st1,rfl,N,hN⟩:=h;refine⟨.ret rs,st',k,N,fun m hm=>?_⟩
 have h4:endPur (.ret rs)=true:=hr;rw[acallS_eq hw];simp only[hp,hN m hm,h4]
def idxT(p:Tm→Bool):List Tm→Nat→Int
 |[],_=>-1
 |t::r,i=>if p t=true then i else idxT p r (i+1)
theorem j5o(p:Tm→Bool):∀(ts:List Tm) (i:Nat),decide (0≤idxT p ts i)=ts.any p
 |[],i=>by simp[idxT]
 |t::r,i=>by
  rw[idxT,List.any_cons]
  by_cases h:p t=true
  ·rw[if_pos h,h];simp
  ·rw[if_neg h,j5o p r,Bool.eq_false_iff.2 h];simp
theorem j6s(ts:List Tm)(b:Bool)(z:Nat)(xs:List PV)(hz:z=5∨xs=[])(hxs:TmsP ts xs)(hbd:ts.length≤1759218604441):Pf C1 193 [.sl b z xs,.fn 199 [] []] [iv (idxT (fun t=>!anyT t) ts 0)]:=by
 have hlen:=hxs.len;refine run_intro Tryz.func193 rfl rfl rfl ?_;all_goals try conv=>whnf
 refine loop_over (G:=Nat) (fun i=>[(8,iv i)]) (fun _=>_) (fun i=>i≤ts.length∧idxT (fun t=>!anyT t) (ts.drop i) i=idxT (fun t=>!anyT t) ts 0) (fun i=>ts.length-i) 0 ⟨by omega,rfl⟩ rfl rfl ?_
 rintro i ⟨hi,hall⟩;dsimp only at hi hall⊢;repeat'(first|refine gU ?_|apply gE<;>intro h)<;>conv=>whnf
 ·have hi':i<ts.length:=by omega
  obtain⟨tc,htc⟩:∃tc,ts[i]?=some tc:=⟨_,List.getElem?_eq_getElem hi'⟩;obtain⟨v,hv,hl⟩:=hxs.at htc;have hw:=j4X tc v hl;obtain⟨k1,n1,s1,l1,t1,b1,z1,x1,c1,y1,ys1,rfl,rfl,hz1,hxs1,hlen1,hbd1,hy1,hys1,hlen21,hbd21,hsl1⟩:=hl.open;rw[drop_at htc,idxT] at hall;repeat'(first|refine gU ?_|apply gM<;>intro h|refine VIdx.mk _ hv ?_|refine gZ hz ?_|refine gX hw ?_)<;>conv=>whnf
  ·rw[if_neg (by simp_all)] at hall
   exact VAgain.mk _ rfl _ (gc_take rfl rfl rfl) ⟨i+1,⟨hi',hall⟩,by omega,rfl⟩
  ·rw[if_pos (by simp_all)] at hall
   rw[←hall]
 ·rw[List.drop_of_length_le (by omega),idxT] at hall
  rw[←hall]
theorem j5V(ts:List Tm)(b:Bool)(z:Nat)(xs:List PV)(hz:z=5∨xs=[])(hxs:TmsP ts xs)(hbd:ts.length≤1759218604441):Pf C1 144 [.sl b z xs,.fn 199 [] []] [bv (!ts.all anyT)]:=by
 have hi:=j6s ts b z xs hz hxs hbd;have e:decide (0≤idxT (fun t=>!anyT t) ts 0) = !ts.all anyT:=by
  rw[j5o];clear hi hxs hbd
  induction ts with
  |nil=>rfl
  |cons t r ih=>
   rw[List.any_cons,List.all_cons];cases anyT t<;>simp_all
 refine run_intro Tryz.func144 rfl rfl rfl ?_;repeat'(first|refine gU ?_|refine gX hi ?_)<;>conv=>whnf
 rw[←e]
theorem j6u(us:List Tm)(ab:Bool)(az:Nat)(axs:List PV)(haz:az=5∨axs=[])(haxs:TmsP us axs)(hla:us.length≤1048576)(has:∀a∈us,anyT a=true)(t:Tm)(v:PV)(h:TmP t v)(p kk:Int)(hall:allT t p kk=true)(hk0:0≤kk)(hk1:kk+depT t≤2251799813685248)(hd:depT t≤2000):
  Pf C1 200 [v,insP ab az axs] (putV (j0X (insF us) t)):=by
 have hb:=j6U us ab az axs haz haxs hla has t v h p kk 0 2000 hall hk0 hk1 (by omega) (by omega) (by omega) (by omega)
 have hl:=j0G (insF us) t 0 2000 (by omega)
 have hm:j0X (insF us) t=if(bldF (insF us) t 0 2000).2<0 then none else some (bldF (insF us) t 0 2000).1:=rfl
 generalize bldF (insF us) t 0 2000=bx at hb hl hm;obtain⟨bt,bl⟩:=bx;obtain⟨k8,n8,s8,b8,z8,x8,c8,y8,ys8,he8⟩:=j04 bt;dsimp only at hb hl hm;rw[he8] at hb;obtain⟨k,nn,s,ls,ts,b,z,xs,c,y,ys,rfl,rfl,-⟩:=h.open;refine run_intro Tryz.func200 rfl rfl rfl ?_;all_goals try conv=>whnf
 refine vcall_st rfl rfl rfl rfl rfl rfl (Finds.mono hb ?_);rintro _ _ ⟨rfl,rfl⟩;refine vback rfl ?_;repeat'(first|refine gU ?_|apply gE<;>intro h)<;>conv=>whnf
 ·have e:j0X (insF us) (.mk k nn s ls ts)=none:=by rw[hm,if_pos (by assumption)]
  rw[e];rfl
 ·have e:j0X (insF us) (.mk k nn s ls ts)=some bt:=by rw[hm,if_neg (by assumption)]
  rw[e];simp only[putV];rw[he8];rfl
def InstF(t:Tm)(us:List Tm):Option Tm:=if anyT t=true∧us.length≤1048576∧us.all anyT=true then j0X (insF us) t else none
theorem j4S(t:Tm)(v:PV)(h:TmP t v)(us:List Tm)(b:Bool)(z:Nat)(xs:List PV)(hz:z=5∨xs=[])(hxs:TmsP us xs)(hbd:us.length≤1759218604441):Pf C1 150 [v,.sl b z xs] (putV (InstF t us)):=by
 have hr:=j1R t v h;have hc:=j5V us b z xs hz hxs hbd;have hlen:=hxs.len;have hm:=fun(e1:anyT t=true) (e2:us.length≤1048576) (e3:us.all anyT=true)=>j6u us b z xs hz hxs e2 (List.all_eq_true.1 e3) t v h 4 _ (j0v e1).2 (by omega) (by have:=j1P e1;omega) (j1P e1)
 have off:¬(anyT t=true∧us.length≤1048576∧us.all anyT=true)→putV (InstF t us)=[encT tz,bv false]:=fun e=>by
  rw[InstF,if_neg e];rfl
 have on:(anyT t=true∧us.length≤1048576∧us.all anyT=true)→InstF t us=j0X (insF us) t:=fun e=>if_pos e
 obtain⟨k,nn,s,ls,ts,b0,z0,x0,c,y,ys,rfl,rfl,-⟩:=h.open;refine run_intro Tryz.func150 rfl rfl rfl ?_;repeat'(first|refine gU ?_|apply gE<;>intro h|apply gM<;>intro h|refine gX hr ?_|refine gX hc ?_)<;>conv=>whnf
 ·rw[off (fun e=>by omega)]
  rfl
 ·have e1:anyT (.mk k nn s ls ts)=true:=by assumption
  have e2:us.length≤1048576:=by omega
  have hm1:=hm e1 e2 h;rw[on ⟨e1,e2,h⟩];generalize j0X (insF us) (.mk k nn s ls ts)=mo at hm1;cases mo with
  |none=>
   simp only[putV] at hm1⊢;refine j0K rfl rfl hm1 rfl ?_;repeat'(refine gU ?_)<;>conv=>whnf
   rfl
  |some x=>
   simp only[putV] at hm1⊢;obtain⟨k8,n8,s8,b8,z8,x8,c8,y8,ys8,he8⟩:=j04 x;rw[he8] at hm1⊢;refine j0K rfl rfl hm1 rfl ?_;repeat'(refine gU ?_)<;>conv=>whnf
   rfl
 ·rw[off (fun e=>by rw[e.2.2] at h;cases h)]
  rfl
 ·rw[off (fun e=>by rw[e.1] at h;cases h)]
  rfl
end Go.Proofs.YtnfbeplfnblgjaaGreatDoor

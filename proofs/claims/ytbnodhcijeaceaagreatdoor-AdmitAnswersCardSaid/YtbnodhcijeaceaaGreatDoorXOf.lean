/- The law's closed test holds (layer 16): what is read, the environment, declarations taken in. -/
import Derived.Test.YtbnodhcijeaceaaGreatDoorXOe
set_option linter.all false
set_option maxHeartbeats 2000000
set_option maxRecDepth 1000000
namespace Go.Proofs.YtbnodhcijeaceaaGreatDoor
open Go Go.Am Go.Gw
def nTwo:List UInt8:=[116,119,111]
def jmc:isTm (cq nTwo) ((ev C1 60).call 29 [sv [116,119,111]] [])=true:=by kernel_rfl
def jmb:isTm (tNat) ((ev C1 60).call 29 [sv [110,97,116]] [])=true:=by kernel_rfl
def jma:isTm (ap (ap (cq nAdd) (cq [107])) (cq [107])) ((ev C1 60).call 29 [sv [40,97,100,100,32,107,32,107,41]] [])=true:=by kernel_rfl
def jrl:isTm (cq [107]) ((ev C1 60).call 29 [sv [107]] [])=true:=by kernel_rfl
def jrm:isTm (cq [112]) ((ev C1 60).call 29 [sv [112]] [])=true:=by kernel_rfl
def jrk:isTm (cq [104]) ((ev C1 60).call 29 [sv [104]] [])=true:=by kernel_rfl
def j4S(k:Int)(hk:i64 k)(nm ts vs:List UInt8)(ty vl:Tm)(h1:∃v,TmP ty v∧Pf C1 29 [sv ts] [v])(h2:∃v,TmP vl v∧Pf C1 29 [sv vs] [v])(gA:nm.length≤1000):∃w,DcP ⟨k,0,nm,ty,vl,0,[]⟩ w∧Pf C1 72 [iv k,sv nm,sv ts,sv vs] [w]:=by
 obtain⟨v,hv,r1⟩:=h1;obtain⟨w,hw,r2⟩:=h2;have qA:=hv;have hA:=hw;cases qA.c;cases hA.c;refine⟨_,.mk k 0 nm ty vl 0 [] _ _ _ _ _ _ _ _ _ _ _ _ _ _ _ _ _ _ true 0 [] hv hw (.inr rfl) rfl (by simp) (by omega) hk (by unfold i64;omega) (by unfold i64;omega),?_⟩
 refine gR Tryz.func72 ?_;repeat'(first|refine gU ?_|apply gE<;>intro h|apply gM<;>intro h|refine gX r1 ?_|refine gX r2 ?_|refine j01 r1 fun _=>?_|refine j01 r2 fun _=>?_|apply gK)<;>conv=>whnf
 all_goals rfl
def nv14_G:NvG nv14:=NvG.adds jut (jaB jmU) (by decide)
def jgE:∃cs,NvP nv14 (.cp cs)∧Pf C1 25 [] [.cp cs]:=by
 obtain⟨ws,hA,hl⟩:=jgD;obtain⟨v,hv,ha⟩:=jmI nv0 _ jve lib14 false ws hA (jaB jmU) (by decide)
 have qA:=hv;obtain⟨b,z,xs,rfl,-⟩:=qA;refine⟨_,hv,?_⟩;have he:=jli;generalize j9c (jau nv0 lib14).tr=tp at *;refine gR Tryz.func25 ?_;repeat'(first|refine gU ?_|apply gE<;>intro h|apply gM<;>intro h|refine gX he ?_|refine gX hl ?_|refine gX ha ?_|apply gK)<;>conv=>whnf
 all_goals rfl
section
variable{E:Nv}{cs:List PV}{tot:Int}{n:Nat}
def jss(hE:NvP E (.cp cs))(hG:NvG E)(h0:0≤tot)(ht:tot≤1048576)(ds:List Dc)(b:Bool)(z:Nat)(vs:List PV)(hz:z=15∨vs=[])(wA:DcsP ds vs)(hl:E.es.length+ds.length<3000)(r:Option Nv×Int×Int)(hx:allF n tot E ds 0 0=some r):AllR 39 [.cp cs,iv tot,.sl b z vs] r:=by
 have hlen:=wA.len;suffices key:Finds C1 39 [.cp cs,iv tot,.sl b z vs] [] fun q _=>match r with
  |(some E',s,e)=>∃cs',(NvG E'∧NvP E' (.cp cs'))∧q=.ret [.cp cs',iv s,iv e]
  |(none,s,e)=>q=.ret [nilP,iv s,iv e] by
  obtain⟨E',s,e⟩:=r;cases E' with
  |none=>exact key
  |some E'=>
   obtain⟨cs',⟨k1,k2⟩,k3⟩:=Finds.out (P:=fun cs'=>NvG E'∧NvP E' (.cp cs')) (R:=fun cs'=>.ret [.cp cs',iv s,iv e]) key
   exact⟨k1,cs',k2,k3⟩
 refine gR Tryz.func39 ?_;repeat'(first|refine gU ?_|apply gE<;>intro h|apply gM<;>intro h|apply gK)<;>conv=>whnf
 refine j04 (G:=Nat×Nv×List PV×Int) (fun g=>[(0,.cp g.2.2.1),(9,iv g.2.2.2),(17,iv g.1)]) (fun _=>_) (fun g=>g.1≤ds.length∧NvG g.2.1∧NvP g.2.1 (.cp g.2.2.1)∧g.2.1.es.length+(ds.length-g.1)<3000∧(0≤g.2.2.2∧g.2.2.2≤1048576*g.1)∧allF n tot g.2.1 (ds.drop g.1) g.1 g.2.2.2=some r) (fun g=>ds.length-g.1) (0,E,cs,0) ⟨by omega,hG,hE,by dsimp only;omega,by dsimp only;omega,hx⟩ rfl rfl ?_
 rintro⟨i,Ei,ci,s⟩ ⟨hi,eG,eE,el,es_,qA⟩;dsimp only at hi eG eE el es_ qA⊢;repeat'(first|refine gU ?_|apply gE<;>intro h|apply gM<;>intro h|apply gK)<;>conv=>whnf
 ·have gA:i<ds.length:=by omega
  obtain⟨d,hd⟩:∃d,ds[i]?=some d:=⟨_,AA gA⟩;obtain⟨v,hv,hP⟩:=wA.at hd;rw[drop_at hd] at qA;unfold allF at qA;cases hp:j2T Ei n d tot with
  |none=>rw[hp] at qA;cases qA
  |some y=>
   obtain⟨y,u⟩:=y;rw[hp] at qA;obtain⟨u0,u1,ue⟩:=jp5 h0 hp;have hA:=j6r eE eG (by omega) h0 ht d v hP y u ue hp
   obtain⟨k,p,nm,ty,vl,fx,dcs,a1,a2,a3,a4,a5,a6,a7,a8,a9,b1,b2,b3,b4,b5,b6,b7,b8,b9,cb,cz,cx,-⟩:=hP;cases y with
   |error e=>
    have he:=ue e rfl;cases qA;have hA:Pf _ _ _ _:=hA;repeat'(first|refine gU ?_|apply gE<;>intro h|apply gM<;>intro h|refine VIdx.mk _ hv ?_|refine gZ hz ?_|refine gX hA ?_|apply gK)<;>conv=>whnf
    all_goals first|rfl|contradiction
   |ok e=>
    obtain⟨kG,c2,kE,hA⟩:=hA;have hB:(Ei.push e).es.length=Ei.es.length+1:=by simp[Nv.push]
    repeat'(first|refine gU ?_|apply gE<;>intro h|apply gM<;>intro h|refine VIdx.mk _ hv ?_|refine gZ hz ?_|refine gX hA ?_|apply gK)<;>conv=>whnf
    all_goals first|contradiction|exact VAgain.mk _ rfl _ (j0a rfl rfl rfl) ⟨(i+1,Ei.push e,c2,s+u),⟨gA,kG,kE,by dsimp only;omega,by dsimp only;omega,qA⟩,by dsimp only;omega,rfl⟩
 ·have hl:i=ds.length:=by omega
  subst hl;rw[BU] at qA;cases qA;exact⟨ci,⟨eG,eE⟩,rfl⟩
end

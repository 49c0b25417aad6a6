/- The entry of a declaration (decl.Plain); what is judged, and its entry. -/
import Derived.Test.YtbnodhcijeaceaaGreatDoorXOc
set_option linter.all false
set_option maxHeartbeats 2000000
set_option maxRecDepth 1000000
namespace Go.Proofs.YtbnodhcijeaceaaGreatDoor
open Go Go.Am Go.Gw
def jmQ(o:Except Int En):List PV:=match o with
 | .ok e=>[encE e,iv 0]
 | .error e=>[.ag zEn,iv e]
theorem jcz{k p fx ht a1 a2 b1 b2:Int}{nm a3 b3:List UInt8}{ty vl:Tm}{cs:List (List UInt8×Tm)}{a4 a7 b4 b7:Bool}{a5 a8 b5 b8:Nat}{a6 a9 b6 b9:List PV}(hty:TmP ty (.ag [iv a1,iv a2,sv a3,.sl a4 a5 a6,.sl a7 a8 a9]))(hvl:TmP vl (.ag [iv b1,iv b2,sv b3,.sl b4 b5 b6,.sl b7 b8 b9]))(hnm:nm.length≤140737488355328):
  EnP (enOf ⟨k,p,nm,ty,vl,fx,cs⟩ ht) (.ag [iv k,iv p,sv nm,iv a1,iv a2,sv a3,.sl a4 a5 a6,.sl a7 a8 a9,iv b1,iv b2,sv b3,.sl b4 b5 b6,.sl b7 b8 b9,iv ht,sv [],iv 0,iv 0,iv 0,.sl true 0 []]):=
 ⟨_,_,_,_,_,_,_,_,_,_,_,_,_,_,_,_,_,_,_,_,rfl,hty,hvl,.inr ⟨rfl,rfl,rfl⟩,hnm,by simp[enOf],by simp[enOf],by simp[enOf]⟩
theorem jdQ(d:Dc)(v:PV)(h:DcP d v)(ht:Int):Pf C1 78 [v,iv ht] (jmQ (entryD d ht)):=by
 have hF:=jch d v h;have hs:=j6X ht 1 1048576;unfold entryD plain8;obtain⟨k,p,nm,ty,vl,fx,cs,a1,a2,a3,a4,a5,a6,a7,a8,a9,b1,b2,b3,b4,b5,b6,b7,b8,b9,cb,cz,cx,hty,hvl,hz,hxs,hlen,hnm,hk,hp,hfx⟩:=h;have hC:=fun q=>jap _ _ (jcz (k:=k) (p:=p) (fx:=fx) (cs:=cs) (ht:=q) hty hvl hnm)
 have hE:=fun q=>j4B (jcz (k:=k) (p:=p) (fx:=fx) (cs:=cs) (ht:=q) hty hvl hnm)
 dsimp only;generalize j3S ⟨k,p,nm,ty,vl,fx,cs⟩=q at *;cases q with
 |false=>
  have hC:True:=trivial;have hs:True:=trivial;refine j00 Tryz.func78 rfl rfl rfl ?_;repeat'(first|refine gU ?_|apply gE<;>intro h|apply gM<;>intro h|refine gX hF ?_|refine gX hs ?_|refine j01 hC fun _=>?_|refine gX hC ?_|apply gK)<;>conv=>whnf
  all_goals first|rfl|(exfalso;omega)
 |true=>
  by_cases c5:k=5
  ·subst c5;have hC:True:=trivial;have hs:True:=trivial;refine j00 Tryz.func78 rfl rfl rfl ?_;repeat'(first|refine gU ?_|apply gE<;>intro h|apply gM<;>intro h|refine gX hF ?_|refine gX hs ?_|refine j01 hC fun _=>?_|refine gX hC ?_|apply gK)<;>conv=>whnf
   all_goals first|rfl|(exfalso;omega)
  have e5:(true && !decide (k=5))=true:=by simp[c5]
  rw[e5]
  by_cases c2:k=2
  ·by_cases c3:1≤ht∧ht≤1048576
   ·have e3:j4i ht 1 1048576=true:=by simp[j4i,c3]
    rw[e3] at hs;rw[if_pos c2,if_pos c3];have hC:=hC ht;obtain⟨tk,tn,ts,tb,tz',txs,tc,ty',tys,vk,vn,vs,vb,vz,vxs,vc,vy,vys,b',z',hE⟩:=hE ht;simp only[jmQ];rw[hE] at hC⊢;refine j00 Tryz.func78 rfl rfl rfl ?_;repeat'(first|refine gU ?_|apply gE<;>intro h|apply gM<;>intro h|refine gX hF ?_|refine gX hs ?_|refine j01 hC fun _=>?_|refine gX hC ?_|apply gK)<;>conv=>whnf
    all_goals first|rfl|(exfalso;omega)
   ·have e3:j4i ht 1 1048576=false:=by
     cases e:j4i ht 1 1048576 with
     |false=>rfl
     |true=>
      simp[j4i] at e;exact absurd e c3
    rw[e3] at hs;rw[if_pos c2,if_neg c3];have hC:True:=trivial;refine j00 Tryz.func78 rfl rfl rfl ?_;repeat'(first|refine gU ?_|apply gE<;>intro h|apply gM<;>intro h|refine gX hF ?_|refine gX hs ?_|refine j01 hC fun _=>?_|refine gX hC ?_|apply gK)<;>conv=>whnf
    all_goals first|rfl|(exfalso;omega)
  ·rw[if_neg c2];have hC:=hC 0;obtain⟨tk,tn,ts,tb,tz',txs,tc,ty',tys,vk,vn,vs,vb,vz,vxs,vc,vy,vys,b',z',hE⟩:=hE 0;simp only[jmQ];rw[hE] at hC⊢;refine j00 Tryz.func78 rfl rfl rfl ?_;repeat'(first|refine gU ?_|apply gE<;>intro h|apply gM<;>intro h|refine gX hF ?_|refine gX hs ?_|refine j01 hC fun _=>?_|refine gX hC ?_|apply gK)<;>conv=>whnf
   all_goals first|rfl|(exfalso;omega)
section
variable{E:Nv}{cs:List PV}{tot:Int}{n:Nat}
theorem jnv(hE:NvP E (.cp cs))(ht:tot≤1048576)(d:Dc)(v:PV)(h:DcP d v)(l:Int)(r:Except Int Unit)(l':Int)(h0:0≤l)(h1:l≤tot)(hx:j2z E n d l=some (r,l')):IrU 77 [xI,v] cs tot l r l':=by
 obtain⟨k,p,nm,ty,vl,fx,dcs,a1,a2,a3,a4,a5,a6,a7,a8,a9,b1,b2,b3,b4,b5,b6,b7,b8,b9,cb,cz,cx,hty,hvl,hz,hxs,hlen,hnm,hk,hp,hfx⟩:=h;unfold j2z at hx;dsimp only at hx;rcases j0a hx with⟨e,q1,rfl⟩|⟨x,la,q1,q2⟩
 ·obtain⟨-,he,hf⟩:=jg0 hE ht [] _ jdP ty _ hty l _ l' h0 h1 q1;have he:=he _ rfl;simp only[errL] at hf;refine⟨he,?_⟩;refine j00 Tryz.func77 rfl rfl rfl ?_;repeat'(first|refine gU ?_|apply gE<;>intro h|apply gM<;>intro h|refine gW hf ?_|apply gK)<;>conv=>whnf
  all_goals exact gJ
 obtain⟨hw,-,hf⟩:=jg0 hE ht [] _ jdP ty _ hty l _ la h0 h1 q1;have hw:=hw x rfl;simp only[errL] at hf;have hZ:=jds x _ hw;have hla:=(j9e (E:=E) n [] ty).dn l _ la h0 q1;obtain⟨k4,n4,b4',z4,x4,he9⟩:=j0A x;rw[he9] at hf hZ;rcases j0a q2 with⟨e,q3,rfl⟩|⟨u0,lb,q3,q4⟩
 ·obtain⟨rfl,d2⟩:=j1o q3;rcases d2 with⟨-,d2⟩|⟨d1,d2⟩
  ·cases d2
  cases d2;obtain⟨c3,cz0⟩:k=3∧jbX x=false:=by simpa using d1
  rw[cz0] at hZ;refine⟨by omega,?_⟩
  refine j00 Tryz.func77 rfl rfl rfl ?_;repeat'(first|refine gU ?_|apply gE<;>intro h|apply gM<;>intro h|refine gW hf ?_|refine gX hZ ?_|apply gK)<;>conv=>whnf
  all_goals exact gJ
 obtain⟨rfl,d2⟩:=j1o q3;rcases d2 with⟨d1,-⟩|⟨-,d2⟩
 rotate_left
 ·cases d2
 have hne:k=3→jbX x=true:=fun c3=>by simpa[c3] using d1
 by_cases c1:k=1
 ·subst c1;cases q4;show Fr _ _ _ _ _ (.ret [iv 0]) _
  have hZ:True:=trivial;refine j00 Tryz.func77 rfl rfl rfl ?_;repeat'(first|refine gU ?_|apply gE<;>intro h|apply gM<;>intro h|refine gW hf ?_|apply gK)<;>conv=>whnf
  all_goals exact gJ
 ·rw[decide_eq_false c1] at q4;dsimp only at q4;have hg:=jkO hE ht [] _ jdP vl _ hvl ty _ hty lb r l' (by omega) (by omega) q4
  by_cases c3:k=3
  ·rw[hne c3] at hZ;cases r with
   |error e=>
    obtain⟨he,hg⟩:=hg;refine⟨he,?_⟩;refine j00 Tryz.func77 rfl rfl rfl ?_;repeat'(first|refine gU ?_|apply gE<;>intro h|apply gM<;>intro h|refine gW hf ?_|refine gX hZ ?_|refine gW hg ?_|apply gK)<;>conv=>whnf
    all_goals exact gJ
   |ok u=>
    have hg:Fr _ _ _ _ _ (.ret [iv 0]) _:=hg;show Fr _ _ _ _ _ (.ret [iv 0]) _
    refine j00 Tryz.func77 rfl rfl rfl ?_;repeat'(first|refine gU ?_|apply gE<;>intro h|apply gM<;>intro h|refine gW hf ?_|refine gX hZ ?_|refine gW hg ?_|apply gK)<;>conv=>whnf
    all_goals exact gJ
  ·have hZ:True:=trivial;cases r with
   |error e=>
    obtain⟨he,hg⟩:=hg;refine⟨he,?_⟩;refine j00 Tryz.func77 rfl rfl rfl ?_;repeat'(first|refine gU ?_|apply gE<;>intro h|apply gM<;>intro h|refine gW hf ?_|refine gW hg ?_|apply gK)<;>conv=>whnf
    all_goals exact gJ
   |ok u=>
    have hg:Fr _ _ _ _ _ (.ret [iv 0]) _:=hg;show Fr _ _ _ _ _ (.ret [iv 0]) _
    refine j00 Tryz.func77 rfl rfl rfl ?_;repeat'(first|refine gU ?_|apply gE<;>intro h|apply gM<;>intro h|refine gW hf ?_|refine gW hg ?_|apply gK)<;>conv=>whnf
    all_goals exact gJ
def plV(r:Except Int En)(u:Int):List PV:=match r with
 | .ok e=>[encE e,iv u,iv 0]
 | .error e=>[.ag zEn,iv u,iv e]
theorem j5S(hE:NvP E (.cp cs))(h0:0≤tot)(ht:tot≤1048576)(d:Dc)(v:PV)(h:DcP d v)(r:Except Int En)(u:Int)(hx:j1w E n d tot=some (r,u)):Pf C1 24 [.cp cs,v,iv tot] (plV r u):=by
 have hw:=jis cs tot h0 ht;have hF:=jch d v h;have hH:=jrw E _ hE [d.nm] true 1 (.inl rfl) (by simp)
 have hD:=fun q=>jdQ d v h q
 have hJ:=fun r' l' hx=>jnv (n:=n) hE ht d v h tot r' l' h0 (Int.le_refl _) hx
 have hht:=fun t w hw=>jci E _ hE t w hw
 unfold j1w plain8 at hx;obtain⟨k,p,nm,ty,vl,fx,dcs,a1,a2,a3,a4,a5,a6,a7,a8,a9,b1,b2,b3,b4,b5,b6,b7,b8,b9,cb,cz,cx,hty,hvl,hz,hxs,hlen,hnm,hk,hp,hfx⟩:=h;have hht:=hht vl _ hvl;dsimp only at hx hH;have hN:=jg2 cs tot tot;generalize j3S ⟨k,p,nm,ty,vl,fx,dcs⟩=q at *;cases q with
 |false=>
  cases hx;show Pf _ _ _ [.ag zEn,iv 0,iv 10]
  have hH:True:=trivial;refine j00 Tryz.func24 rfl rfl rfl ?_;repeat'(first|refine gU ?_|apply gE<;>intro h|apply gM<;>intro h|refine j7b hw rfl rfl (j1X rfl ?_)|refine gX hF ?_|refine gX hH ?_|apply gO|apply gK)<;>conv=>whnf
  all_goals first|rfl|(exfalso;omega)|contradiction
 |true=>
  by_cases c5:k=5
  ·subst c5;cases hx;show Pf _ _ _ [.ag zEn,iv 0,iv 10]
   have hH:True:=trivial;refine j00 Tryz.func24 rfl rfl rfl ?_;repeat'(first|refine gU ?_|apply gE<;>intro h|apply gM<;>intro h|refine j7b hw rfl rfl (j1X rfl ?_)|refine gX hF ?_|refine gX hH ?_|apply gO|apply gK)<;>conv=>whnf
   all_goals first|rfl|(exfalso;omega)|contradiction
  have e5:(true && !decide (k=5))=true:=by simp[c5]
  rw[e5] at hx;dsimp only at hx;cases hg:getR nm E.tr with
  |some i=>
   rw[hg] at hx;cases hx;have hH:Pf C1 28 [.cp cs,.sl true 1 [sv nm]] [bv true]:=by
    have e:([nm].all fun s=>(getR s E.tr).isSome)=true:=by simp[hg]
    rw[e] at hH;exact hH
   show Pf _ _ _ [.ag zEn,iv 0,iv 14]
   refine j00 Tryz.func24 rfl rfl rfl ?_;repeat'(first|refine gU ?_|apply gE<;>intro h|apply gM<;>intro h|refine j7b hw rfl rfl (j1X rfl ?_)|refine gX hF ?_|refine gX hH ?_|apply gO|apply gK)<;>conv=>whnf
   all_goals first|rfl|(exfalso;omega)|contradiction
  |none=>
   have hH:Pf C1 28 [.cp cs,.sl true 1 [sv nm]] [bv false]:=by
    have e:([nm].all fun s=>(getR s E.tr).isSome)=false:=by simp[hg]
    rw[e] at hH;exact hH
   rw[hg] at hx;dsimp only at hx;cases hj:j2z E n ⟨k,p,nm,ty,vl,fx,dcs⟩ tot with
   |none=>rw[hj] at hx;cases hx
   |some y=>
    obtain⟨y,l⟩:=y;have hJ:=hJ y l hj;have hU:=jqE cs tot l;rw[hj] at hx;cases y with
    |error e=>
     cases hx;obtain⟨he,hJ⟩:=hJ;show Pf _ _ _ [.ag zEn,iv (tot-l),iv e]
     refine j00 Tryz.func24 rfl rfl rfl ?_;repeat'(first|refine gU ?_|apply gE<;>intro h|apply gM<;>intro h|refine j7b hw rfl rfl (j1X rfl ?_)|refine gX hF ?_|refine gX hH ?_|refine j1u (i:=2) hN rfl rfl rfl rfl rfl rfl rfl ?_|refine j1u (i:=2) hJ rfl rfl rfl rfl rfl rfl rfl ?_|refine j1u (i:=2) hU rfl rfl rfl rfl rfl rfl rfl ?_|apply gK)<;>conv=>whnf
     all_goals first|rfl|(exfalso;omega)|contradiction
    |ok a=>
     cases hx;have hJ:Fr _ _ _ _ _ (.ret [iv 0]) _:=hJ;have hD:=hD (j3V E vl+1);have hb:=jcJ (show NvOk E by obtain⟨_,_,_,_,_,_,hok⟩:=hE;exact hok) (j4W vl) 0 (by omega)
     have hb:0≤j3V E vl∧j3V E vl≤1048576:=hb;generalize j3V E vl=hh at *;cases hq:entryD ⟨k,p,nm,ty,vl,fx,dcs⟩ (hh+1) with
     |error e=>
      rw[hq] at hD;simp only[jmQ] at hD;have he:=jaN hq;show Pf _ _ _ [.ag zEn,iv (tot-l),iv e]
      refine j00 Tryz.func24 rfl rfl rfl ?_;repeat'(first|refine gU ?_|apply gE<;>intro h|apply gM<;>intro h|refine j7b hw rfl rfl (j1X rfl ?_)|refine gX hF ?_|refine gX hH ?_|refine j1u (i:=2) hN rfl rfl rfl rfl rfl rfl rfl ?_|refine j1u (i:=2) hJ rfl rfl rfl rfl rfl rfl rfl ?_|refine j01 hht fun _=>?_|refine j01 hD fun _=>?_|refine gX hht ?_|refine gX hD ?_|refine j1u (i:=2) hU rfl rfl rfl rfl rfl rfl rfl ?_|apply gK)<;>conv=>whnf
      all_goals first|rfl|(exfalso;omega)|contradiction
     |ok en=>
      obtain⟨q,rfl⟩:=j7Z hq;obtain⟨tk,tn,ts,tb,tz',txs,tc,ty',tys,vk,vn,vs,vb,vz,vxs,vc,vy,vys,b',z',hE'⟩:=j4B (jcz (k:=k) (p:=p) (fx:=fx) (cs:=dcs) (ht:=q) hty hvl hnm);rw[hq] at hD;simp only[jmQ] at hD;show Pf _ _ _ [encE _,iv (tot-l),iv 0]
      rw[hE'] at hD⊢;refine j00 Tryz.func24 rfl rfl rfl ?_;repeat'(first|refine gU ?_|apply gE<;>intro h|apply gM<;>intro h|refine j7b hw rfl rfl (j1X rfl ?_)|refine gX hF ?_|refine gX hH ?_|refine j1u (i:=2) hN rfl rfl rfl rfl rfl rfl rfl ?_|refine j1u (i:=2) hJ rfl rfl rfl rfl rfl rfl rfl ?_|refine j01 hht fun _=>?_|refine j01 hD fun _=>?_|refine gX hht ?_|refine gX hD ?_|refine j1u (i:=2) hU rfl rfl rfl rfl rfl rfl rfl ?_|apply gK)<;>conv=>whnf
      all_goals first|rfl|(exfalso;omega)|contradiction
end
open Go Go.Am Go.Gw
theorem jeI(l:List (List UInt8))(b b2:Bool)(z z2:Nat)(hz:z=1∨l=[])(hz2:z2=1∨l=[])(hbd:l.length≤1000000):Pf C1 40 [.sl b z (svs l),.sl b2 z2 (svs l)] [bv true]:=by
 have hlen:(svs l).length=l.length:=by simp
 have hz':z=1∨svs l=[]:=j7F hz;have hz2':z2=1∨svs l=[]:=j7F hz2;have h0:((svs l).length:Int)=(svs l).length:=rfl;refine j00 Tryz.func40 rfl rfl rfl ?_;repeat'(first|refine gU ?_|apply gE<;>intro h|apply gM<;>intro h|apply gK)<;>conv=>whnf
 all_goals first|(exfalso;omega)|skip
 refine j03 (G:=Nat) (fun i=>[(5,iv i)]) (fun _=>_) (fun i=>i≤l.length) (fun i=>l.length-i) 0 (by omega) rfl rfl ?_
 intro i hi;dsimp only at hi⊢;repeat'(first|refine gU ?_|apply gE<;>intro h|apply gM<;>intro h|apply gK)<;>conv=>whnf
 have hi':i<l.length:=by omega
 obtain⟨s,hs⟩:∃s,l[i]?=some s:=⟨_,List.getElem?_eq_getElem hi'⟩;have hv:=jdf hs;have hss:(!(s == s))=false:=by simp
 repeat'(first|refine gU ?_|apply gE<;>intro h|apply gM<;>intro h|refine VNat.mk i rfl ?_|refine VIdx.mk _ hv ?_|refine gZ hz' ?_|refine gZ hz2' ?_|refine j3a ?_|apply gK)<;>conv=>whnf
 all_goals first|exact VAgain.mk _ rfl _ (j0c rfl rfl rfl) ⟨i+1,by omega,by omega,rfl⟩|(exfalso;simp_all;done)
theorem EnP.names{e:En}{v:PV}(h:EnP e v):e.ctors.length≤1000000:=by
 obtain⟨a1,a2,a3,a4,a5,a6,a7,a8,a9,a10,a11,a12,a13,a14,a15,a16,a17,a18,a19,a20,rfl,-,-,-,-,-,h,-⟩:=h;exact h
theorem jeH(e:En)(v w:PV)(hv:EnP e v)(hw:EnP e w):Pf C1 26 [v,w] [bv true]:=by
 obtain⟨kind,pars,nm,ty,val,ht,fam,fixd,idx,flds,ctors⟩:=e;obtain⟨tk,tn,ts,tb,tz',txs,tc,ty',tys,vk,vn,vs,vb,vz,vxs,vc,vy,vys,b,z,rfl,hty,hval,hz,hnm,hfam,hct,hcs⟩:=hv;obtain⟨sk,sn,ss,sb,sz,sxs,sc,sy,sys,uk,un,us,ub,uz,uxs,uc,uy,uys,b2,z2,rfl,hty2,hval2,hz2,-⟩:=hw;dsimp only at hty hval hty2 hval2 hz hz2 hct;have h1:=j9C ty _ hty ty _ hty2;have h2:=j9C val _ hval val _ hval2;rw[(jhs ty ty).2 rfl] at h1;rw[(jhs val val).2 rfl] at h2;have h3:=jeI ctors b b2 z z2 (hz.imp (·.1) (·.1)) (hz2.imp (·.1) (·.1)) hct
 have e1:kind=kind:=rfl;have e2:pars=pars:=rfl;have e3:ht=ht:=rfl;have e4:fixd=fixd:=rfl;have e5:idx=idx:=rfl;have e6:flds=flds:=rfl;have s1:(nm == nm)=true:=by simp
 have s2:(fam == fam)=true:=by simp
 refine j00 Tryz.func26 rfl rfl rfl ?_;repeat'(first|refine gU ?_|apply gE<;>intro h|apply gM<;>intro h|refine j3a ?_|refine gX h1 ?_|refine gX h2 ?_|refine gX h3 ?_|apply gK)<;>conv=>whnf
 all_goals first|rfl|contradiction
theorem jhF(d:Dc)(v:PV)(h:DcP d v):∃q,Pf C1 23 [v] [bv q]:=by
 obtain⟨b,-,hb⟩:=jk0 d v h;suffices hh:Finds C1 23 [v] [] fun r _=>∃q:Bool,True∧r=.ret [bv q] by
  obtain⟨q,-,hq⟩:=Finds.out (P:=fun _=>True) (R:=fun q=>.ret [bv q]) hh
  exact⟨q,hq⟩
 obtain⟨k,p,nm,ty,vl,fx,dcs,a1,a2,a3,a4,a5,a6,a7,a8,a9,b1,b2,b3,b4,b5,b6,b7,b8,b9,cb,cz,cx,hty,hvl,hz,hxs,hlen,hnm,hk,hp,hfx⟩:=h;have h1:=j3r ty _ hty 80 (by omega) (by omega)
 have h2:=j3r vl _ hvl 80 (by omega) (by omega)
 refine j00 Tryz.func23 rfl rfl rfl ?_;cases b with
 |true=>
  repeat'(first|refine gU ?_|apply gE<;>intro h|apply gM<;>intro h|refine gX hb ?_|apply gK)<;>conv=>whnf
  all_goals exact⟨_,trivial,rfl⟩
 |false=>
  repeat'(first|refine gU ?_|apply gE<;>intro h|apply gM<;>intro h|refine gX hb ?_|refine gX h1 ?_|refine gX h2 ?_|apply gK)<;>conv=>whnf
  all_goals exact⟨_,trivial,rfl⟩
section
variable{E:Nv}{cs:List PV}{tot:Int}{n:Nat}
theorem jo5{d:Dc}{e:En}{u:Int}(hx:j1w E n d tot=some (.ok e,u)):j1s e=true∧e.nm=d.nm∧getR e.nm E.tr=none:=by
 unfold j1w at hx;split at hx
 ·cases hx
 split at hx
 ·cases hx
 rename_i hg;split at hx
 ·cases hx
 ·cases hx
 ·simp only[Option.some.injEq,Prod.mk.injEq] at hx;obtain⟨hq,-⟩:=hx;obtain⟨q,rfl⟩:=j7Z hq;exact⟨jfI hq,rfl,hg⟩
def AddR(E:Nv)(f:FuncId)(args:List PV)(r:Except Int En)(u:Int):Prop:=match r with
 | .ok e=>NvG (E.push e)∧∃cs',NvP (E.push e) (.cp cs')∧Pf C1 f args [.cp cs',iv u,iv 0]
 | .error e=>Pf C1 f args [nilP,iv u,iv e]
theorem j5U(hE:NvP E (.cp cs))(hG:NvG E)(hl:E.es.length<3000)(h0:0≤tot)(ht:tot≤1048576)(d:Dc)(v:PV)(h:DcP d v)(r:Except Int En)(u:Int)(hz:∀e,r=.error e→¬e=0)(hx:j1w E n d tot=some (r,u)):AddR E 27 [.cp cs,v,iv tot] r u:=by
 have hP:=j5S hE h0 ht d v h r u hx;obtain⟨k,p,nm,ty,vl,fx,dcs,a1,a2,a3,a4,a5,a6,a7,a8,a9,b1,b2,b3,b4,b5,b6,b7,b8,b9,cb,cz,cx,hty,hvl,hz',hxs,hlen,hnm,hk,hp,hfx⟩:=h;cases r with
 |error e=>
  have he:=hz e rfl;simp only[plV] at hP;show Pf _ _ _ _
  refine j00 Tryz.func27 rfl rfl rfl ?_;repeat'(first|refine gU ?_|apply gE<;>intro h|apply gM<;>intro h|refine gX hP ?_|apply gK)<;>conv=>whnf
  all_goals first|rfl|contradiction
 |ok e=>
  obtain⟨hr,hn,hg⟩:=jo5 hx;have hw:EnP e (encE e):=by
   unfold j1w at hx;split at hx
   ·cases hx
   split at hx
   ·cases hx
   split at hx
   ·cases hx
   ·cases hx
   ·simp only[Option.some.injEq,Prod.mk.injEq] at hx;obtain⟨q,rfl⟩:=j7Z hx.1;exact j5n (jcz (ht:=q) hty hvl hnm)
  obtain⟨g1,v',g2,hA⟩:=joY E _ hE hG e _ hw hr hg hl;have g2':=g2;obtain⟨b',z',xs',rfl,-⟩:=g2';refine⟨g1,_,g2,?_⟩;obtain⟨tk,tn,ts,tb,tz',txs,tc,ty',tys,vk,vn,vs,vb,vz,vxs,vc,vy,vys,b9',z9,hE'⟩:=j4B hw;simp only[plV] at hP;rw[hE'] at hP hA;generalize j8z (E.push e).tr=tp at *;refine j00 Tryz.func27 rfl rfl rfl ?_;repeat'(first|refine gU ?_|apply gE<;>intro h|apply gM<;>intro h|refine gX hP ?_|refine j7a rfl rfl hA rfl ?_|apply gK)<;>conv=>whnf
  all_goals first|rfl|contradiction
noncomputable def allF(n:Nat)(tot:Int):Nv→List Dc→Nat→Int→Option (Option Nv×Int×Int)
 |E,[],_,s=>some (some E,s,0)
 |E,d::r,i,s=>match j1w E n d tot with
  |none=>none
  |some (.error e,_)=>some (none,i,e)
  |some (.ok e,u)=>allF n tot (E.push e) r (i+1) (s+u)
def AllR(f:FuncId)(args:List PV)(r:Option Nv×Int×Int):Prop:=match r with
 |(some E,s,e)=>NvG E∧∃cs',NvP E (.cp cs')∧Pf C1 f args [.cp cs',iv s,iv e]
 |(none,s,e)=>Pf C1 f args [nilP,iv s,iv e]
inductive DcsP:List Dc→List PV→Prop where
 |nil:DcsP [] []
 |cons {d:Dc}{v:PV}{ds:List Dc}{vs:List PV}:DcP d v→DcsP ds vs→DcsP (d::ds) (v::vs)
theorem DcsP.len{ds:List Dc}{vs:List PV}(h:DcsP ds vs):vs.length=ds.length:=by
 induction h with
 |nil=>rfl
 |cons _ _ ih=>simp[ih]
theorem DcsP.at{ds:List Dc}{vs:List PV}(h:DcsP ds vs):∀{i:Nat}{d:Dc},ds[i]?=some d→∃v,vs[i]?=some v∧DcP d v:=by
 induction h with
 |nil=>intro i d hi;simp at hi
 |cons h1 _ ih=>
  intro i d hi;cases i with
  |zero=>simp at hi;subst hi;exact⟨_,rfl,h1⟩
  |succ i=>simpa using ih (by simpa using hi)
end
open Go Go.Am Go.Gw
def nTwo:List UInt8:=[116,119,111]
theorem jlr:isTm (cq nTwo) ((ev C1 60).call 29 [sv [116,119,111]] [])=true:=by kernel_rfl
theorem jlq:isTm (tNat) ((ev C1 60).call 29 [sv [110,97,116]] [])=true:=by kernel_rfl
theorem jlp:isTm (ap (ap (cq nAdd) (cq [107])) (cq [107])) ((ev C1 60).call 29 [sv [40,97,100,100,32,107,32,107,41]] [])=true:=by kernel_rfl
theorem jqm:isTm (cq [107]) ((ev C1 60).call 29 [sv [107]] [])=true:=by kernel_rfl
theorem jqn:isTm (cq [112]) ((ev C1 60).call 29 [sv [112]] [])=true:=by kernel_rfl
theorem jql:isTm (cq [104]) ((ev C1 60).call 29 [sv [104]] [])=true:=by kernel_rfl
theorem j4A(k:Int)(hk:i64 k)(nm ts vs:List UInt8)(ty vl:Tm)(h1:∃v,TmP ty v∧Pf C1 29 [sv ts] [v])(h2:∃v,TmP vl v∧Pf C1 29 [sv vs] [v])(hnm:nm.length≤1000):∃w,DcP ⟨k,0,nm,ty,vl,0,[]⟩ w∧Pf C1 72 [iv k,sv nm,sv ts,sv vs] [w]:=by
 obtain⟨v,hv,r1⟩:=h1;obtain⟨w,hw,r2⟩:=h2;have hv':=hv;have hw':=hw;cases hv'.c;cases hw'.c;refine⟨_,.mk k 0 nm ty vl 0 [] _ _ _ _ _ _ _ _ _ _ _ _ _ _ _ _ _ _ true 0 [] hv hw (.inr rfl) rfl (by simp) (by omega) hk (by unfold i64;omega) (by unfold i64;omega),?_⟩
 refine j00 Tryz.func72 rfl rfl rfl ?_;repeat'(first|refine gU ?_|apply gE<;>intro h|apply gM<;>intro h|refine gX r1 ?_|refine gX r2 ?_|refine j01 r1 fun _=>?_|refine j01 r2 fun _=>?_|apply gK)<;>conv=>whnf
 all_goals rfl
theorem nv14_G:NvG nv14:=NvG.adds ju2 (jdx jqY) (by decide)
theorem jg7:∃cs,NvP nv14 (.cp cs)∧Pf C1 25 [] [.cp cs]:=by
 obtain⟨ws,hws,hl⟩:=jnF;obtain⟨v,hv,ha⟩:=jlU nv0 _ ju3 jhP false ws hws (jdx jqY) (by decide)
 have hv':=hv;obtain⟨b,z,xs,rfl,-⟩:=hv';refine⟨_,hv,?_⟩;have he:=jkB;generalize j8z (jfb nv0 jhP).tr=tp at *;refine j00 Tryz.func25 rfl rfl rfl ?_;repeat'(first|refine gU ?_|apply gE<;>intro h|apply gM<;>intro h|refine gX he ?_|refine gX hl ?_|refine gX ha ?_|apply gK)<;>conv=>whnf
 all_goals rfl
section
variable{E:Nv}{cs:List PV}{tot:Int}{n:Nat}
theorem jru(hE:NvP E (.cp cs))(hG:NvG E)(h0:0≤tot)(ht:tot≤1048576)(ds:List Dc)(b:Bool)(z:Nat)(vs:List PV)(hz:z=15∨vs=[])(hds:DcsP ds vs)(hl:E.es.length+ds.length<3000)(r:Option Nv×Int×Int)(hx:allF n tot E ds 0 0=some r):AllR 39 [.cp cs,iv tot,.sl b z vs] r:=by
 have hlen:=hds.len;suffices key:Finds C1 39 [.cp cs,iv tot,.sl b z vs] [] fun q _=>match r with
  |(some E',s,e)=>∃cs',(NvG E'∧NvP E' (.cp cs'))∧q=.ret [.cp cs',iv s,iv e]
  |(none,s,e)=>q=.ret [nilP,iv s,iv e] by
  obtain⟨E',s,e⟩:=r;cases E' with
  |none=>exact key
  |some E'=>
   obtain⟨cs',⟨k1,k2⟩,k3⟩:=Finds.out (P:=fun cs'=>NvG E'∧NvP E' (.cp cs')) (R:=fun cs'=>.ret [.cp cs',iv s,iv e]) key
   exact⟨k1,cs',k2,k3⟩
 refine j00 Tryz.func39 rfl rfl rfl ?_;repeat'(first|refine gU ?_|apply gE<;>intro h|apply gM<;>intro h|apply gK)<;>conv=>whnf
 refine j03 (G:=Nat×Nv×List PV×Int) (fun g=>[(0,.cp g.2.2.1),(9,iv g.2.2.2),(17,iv g.1)]) (fun _=>_) (fun g=>g.1≤ds.length∧NvG g.2.1∧NvP g.2.1 (.cp g.2.2.1)∧g.2.1.es.length+(ds.length-g.1)<3000∧(0≤g.2.2.2∧g.2.2.2≤1048576*g.1)∧allF n tot g.2.1 (ds.drop g.1) g.1 g.2.2.2=some r) (fun g=>ds.length-g.1) (0,E,cs,0) ⟨by omega,hG,hE,by dsimp only;omega,by dsimp only;omega,hx⟩ rfl rfl ?_
 rintro⟨i,Ei,ci,s⟩ ⟨hi,eG,eE,el,es_,hall⟩;dsimp only at hi eG eE el es_ hall⊢;repeat'(first|refine gU ?_|apply gE<;>intro h|apply gM<;>intro h|apply gK)<;>conv=>whnf
 ·have hi':i<ds.length:=by omega
  obtain⟨d,hd⟩:∃d,ds[i]?=some d:=⟨_,List.getElem?_eq_getElem hi'⟩;obtain⟨v,hv,hP⟩:=hds.at hd;rw[drop_at hd] at hall;unfold allF at hall;cases hp:j1w Ei n d tot with
  |none=>rw[hp] at hall;cases hall
  |some y=>
   obtain⟨y,u⟩:=y;rw[hp] at hall;obtain⟨u0,u1,ue⟩:=jo4 h0 hp;have hA:=j5U eE eG (by omega) h0 ht d v hP y u ue hp
   obtain⟨k,p,nm,ty,vl,fx,dcs,a1,a2,a3,a4,a5,a6,a7,a8,a9,b1,b2,b3,b4,b5,b6,b7,b8,b9,cb,cz,cx,-⟩:=hP;cases y with
   |error e=>
    have he:=ue e rfl;cases hall;have hA:Pf _ _ _ _:=hA;repeat'(first|refine gU ?_|apply gE<;>intro h|apply gM<;>intro h|refine VIdx.mk _ hv ?_|refine gZ hz ?_|refine gX hA ?_|apply gK)<;>conv=>whnf
    all_goals first|rfl|contradiction
   |ok e=>
    obtain⟨kG,c2,kE,hA⟩:=hA;have hle:(Ei.push e).es.length=Ei.es.length+1:=by simp[Nv.push]
    repeat'(first|refine gU ?_|apply gE<;>intro h|apply gM<;>intro h|refine VIdx.mk _ hv ?_|refine gZ hz ?_|refine gX hA ?_|apply gK)<;>conv=>whnf
    all_goals first|contradiction|exact VAgain.mk _ rfl _ (j0c rfl rfl rfl) ⟨(i+1,Ei.push e,c2,s+u),⟨hi',kG,kE,by dsimp only;omega,by dsimp only;omega,hall⟩,by dsimp only;omega,rfl⟩
 ·have hl:i=ds.length:=by omega
  subst hl;rw[List.drop_length] at hall;cases hall;exact⟨ci,⟨eG,eE⟩,rfl⟩
end
end Go.Proofs.YtbnodhcijeaceaaGreatDoor

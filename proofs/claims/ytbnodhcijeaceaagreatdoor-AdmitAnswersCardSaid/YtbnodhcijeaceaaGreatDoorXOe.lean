/- Environments with an entry more, whatever its name (package env): plain law; then what is asked of environments. -/
import Derived.Test.YtbnodhcijeaceaaGreatDoorXQf
import Derived.Test.YtbnodhcijeaceaaGreatDoorXHg
set_option linter.all false
set_option maxHeartbeats 2000000
set_option maxRecDepth 100000
namespace Go.Proofs.YtbnodhcijeaceaaGreatDoor
open Go Go.Am Go.Gw
structure NvG (E:Nv):Prop where
 ok:NvOk E
 bst:E.tr.bst
 ex:E.tr.ex
 cnt:E.tr.count≤E.es.length
def jut:NvG nv0:=⟨⟨fun s i h=>(by cases h),fun e h=>(by cases h),by simp[nv0]⟩,trivial,trivial,by simp[nv0,Tr.count]⟩
variable{e:En}{cs:List PV}{E:Nv}{x y:Operand}
def NvG.push(h:NvG E)(hr:j1y e=true)(hl:E.es.length<3000):NvG (E.push e)∧jf7 e.nm E.es.length E.tr:=by
 obtain⟨p1,p2,p3⟩:=jc5 (s:=e.nm) (n:=E.es.length) h.ex;have hc:=h.cnt;refine⟨⟨⟨fun s i hi=>?_,fun x hx=>?_,?_⟩,jf8 h.bst,p1,?_⟩,jiD h.ex (by omega)⟩
 ·have hA:(E.push e).es.length=E.es.length+1:=by simp[Nv.push]
  rw[hA];rcases j9T (jby hi) with⟨-,rfl⟩|hi
  ·omega
  ·have:=h.ok.idx s i (j9J h.bst hi);omega
 ·rcases BJ.1 hx with hx|hx
  ·exact h.ok.right x hx
  ·rw[BD.1 hx];exact hr
 ·simp only[Nv.push,AL,AC,AG];omega
 ·simp only[Nv.push,AL,AC,AG];omega
def NvG.adds:∀{es:List En}{E:Nv},NvG E→jd0 E es→E.es.length+es.length≤3000→NvG (jau E es)
 |[],E,h,_,_=>h
 |e::r,E,h,⟨⟨o1,o2,o3,o4,o5⟩,o6⟩,hl=>by
  simp only[AC] at hl;refine NvG.adds (es:=r) (E:=E.push e) (h.push o1 (by omega)).1 o6 ?_
  simp only[Nv.push,AL,AC,AG];omega
def jpY(E:Nv)(v:PV)(h:NvP E v)(hG:NvG E)(e:En)(w:PV)(hw:EnP e w)(hr:j1y e=true)(hg:getR e.nm E.tr=none)(hl:E.es.length<3000):NvG (E.push e)∧∃v',NvP (E.push e) v'∧Pf C1 56 [v,.sl false 19 [w]] [v',iv 0]:=
 ⟨(hG.push hr hl).1,jmI E v h [e] false [w] ⟨w,[],rfl,hw,rfl⟩ ⟨⟨hr,hg,(hG.push hr hl).2,by omega,(hG.push hr hl).1.ok⟩,trivial⟩ (by simp)⟩
def jdg(E:Nv)(v:PV)(h:NvP E v):Pf C1 74 [v] [iv E.es.length]:=by
 obtain⟨b,z,xs,rfl,hz,hx,hA⟩:=h;have hl:=hx.len;refine gR Tryz.func74 ?_;repeat'(first|refine gU ?_|apply gE<;>intro h|apply gM<;>intro h|apply gK)<;>conv=>whnf
 rw[←hl]
def jsv(E:Nv)(v:PV)(h:NvP E v)(ns:List (List UInt8))(b:Bool)(z:Nat)(hz:z=1∨ns=[])(wA:ns.length≤1000000):Pf C1 28 [v,.sl b z (svs ns)] [bv (ns.all fun s=>(getR s E.tr).isSome)]:=by
 obtain⟨b0,z0,xs,rfl,-⟩:=h;have hlen:(svs ns).length=ns.length:=by simp
 have qA:z=1∨svs ns=[]:=j6b hz;refine gR Tryz.func28 ?_;repeat'(first|refine gU ?_|apply gE<;>intro h|apply gM<;>intro h|apply gK)<;>conv=>whnf
 refine j04 (G:=Nat) (fun i=>[(11,iv i)]) (fun _=>_) (fun i=>i≤ns.length∧((ns.drop i).all fun s=>(getR s E.tr).isSome)=ns.all fun s=>(getR s E.tr).isSome) (fun i=>ns.length-i) 0 ⟨by omega,rfl⟩ rfl rfl ?_
 rintro i ⟨hi,hA⟩;dsimp only at hi hA⊢;repeat'(first|refine gU ?_|apply gE<;>intro h|apply gM<;>intro h|apply gK)<;>conv=>whnf
 ·have gA:i<ns.length:=by omega
  obtain⟨s,hs⟩:∃s,ns[i]?=some s:=⟨_,AA gA⟩;have hv:=j7Q hs;have hG:=jhw s E.tr;rw[drop_at hs,BH] at hA;cases hg:getR s E.tr with
  |none=>
   rw[hg] at hG hA;repeat'(first|refine gU ?_|apply gE<;>intro h|apply gM<;>intro h|refine VIdx.mk _ hv ?_|refine gZ qA ?_|refine gX hG ?_|apply gK)<;>conv=>whnf
   rw[←hA];rfl
  |some q=>
   rw[hg] at hG hA;repeat'(first|refine gU ?_|apply gE<;>intro h|apply gM<;>intro h|refine VIdx.mk _ hv ?_|refine gZ qA ?_|refine gX hG ?_|apply gK)<;>conv=>whnf
   exact VAgain.mk _ rfl _ (j0a rfl rfl rfl) ⟨i+1,⟨gA,by simpa using hA⟩,by omega,rfl⟩
 ·rw[AV (by omega)] at hA
  rw[←hA];rfl
def jo9(h:NvOk E)(s:List UInt8):0≤htF E s∧htF E s≤1048576:=by
 unfold htF j0E;cases hg:getR s E.tr with
 |none=>simp[enz]
 |some i=>
  dsimp only;cases he:E.es[i.toNat]? with
  |none=>simp[enz]
  |some e=>
   have:=h.right e (AE he);simp only[CF];unfold j1y j3y at this;unfold j3D joX at this
   grind
def j9I{E:Nv}(h:NvOk E):∀(l:List (List UInt8)) (n:Int),0≤n∧n≤1048576→0≤j1H E l n∧j1H E l n≤1048576
 |[],_,hn=>hn
 |s::r,n,hn=>by
  have:=jo9 h s;rw[j1H];refine j9I h r _ ?_;split<;>omega
def jcV(E:Nv)(v:PV)(h:NvP E v)(t:Tm)(w:PV)(ht:TmP t w):Pf C1 73 [v,w] [iv (j2l E t)]:=by
 have qA:NvOk E:=by
  obtain⟨_,_,_,_,_,_,qA⟩:=h;exact qA
 have hc:=jkI t w ht;have hl:=jhv t;obtain⟨b1,z1,he,hB⟩:=jlg (j2J t);rw[he] at hc;unfold j2l;generalize j2J t=ns at *;have gA:=fun s=>j6z E v h s
 obtain⟨b0,z0,xs,rfl,-⟩:=h;have hlen:(svs ns).length=ns.length:=by simp
 have qB:z1=1∨svs ns=[]:=j6b hB;cases ht.c;refine gR Tryz.func73 ?_;repeat'(first|refine gU ?_|apply gE<;>intro h|apply gM<;>intro h|refine gX hc ?_|apply gK)<;>conv=>whnf
 refine j04 (G:=Nat×Int) (fun g=>[(13,iv g.1),(5,iv g.2)]) (fun _=>_) (fun g=>g.1≤ns.length∧(0≤g.2∧g.2≤1048576)∧j1H E (ns.drop g.1) g.2=j1H E ns 0) (fun g=>ns.length-g.1) (0,0) ⟨by omega,by dsimp only;omega,rfl⟩ rfl rfl ?_
 rintro⟨i,n⟩ ⟨hi,hn,hA⟩;dsimp only at hi hn hA⊢;repeat'(first|refine gU ?_|apply gE<;>intro h|apply gM<;>intro h|apply gK)<;>conv=>whnf
 ·have wA:i<ns.length:=by omega
  obtain⟨s,hs⟩:∃s,ns[i]?=some s:=⟨_,AA wA⟩;have hv:=j7Q hs;have hb:=jo9 qA s;rw[drop_at hs,j1H] at hA;obtain⟨w,hw,hG⟩:=gA s;unfold htF at hA hb;generalize(j0E E s).getD enz=e at *;generalize(j0E E s).isSome=q at *;obtain⟨a1,a2,a3,a4,a5,a6,a7,a8,a9,a10,a11,a12,a13,a14,a15,a16,a17,a18,a19,a20,rfl,-⟩:=hw;repeat'(first|refine gU ?_|apply gE<;>intro h|apply gM<;>intro h|refine VIdx.mk _ hv ?_|refine gZ qB ?_|refine j01 hG fun _=>?_|refine gX hG ?_|apply gK)<;>conv=>whnf
  exact VAgain.mk _ rfl _ (j0a rfl rfl rfl) ⟨(i+1,if e.ht>n then e.ht else n),⟨wA,by dsimp only;split<;>omega,hA⟩,by dsimp only;omega,rfl⟩
 ·rw[AV (by omega),j1H] at hA
  rw[←hA]
open Go Go.Am Go.Gw
section
variable{E:Nv}{cs:List PV}{tot:Int}{n:Nat}
end
open Go Go.Am Go.Gw
open Go Go.Am Go.Gw
def tA5:Tm:=ap (la_ tNat (ap (cq [102]) (vr 0))) (cq [107])
def tB5:Tm:=ap (la_ tNat (vr 0)) (cq [112])
def xiEq:j0i C1.P .eql 38 x y (.ci cs) nilP=some (bv false):=by kernel_rfl
def xiNe:j0i C1.P .neq 38 x y (.ci cs) nilP=some (bv true):=by kernel_rfl
def jcx{op:BinOp}{K:PV→Prop}(h:jqY op false K):VRes (j0i C1.P op 38 x y (.ci cs) nilP) K:=by
 cases op with
 |eql=>exact⟨_,xiEq,h⟩
 |neq=>exact⟨_,xiNe,h⟩
 |_=>exact h.elim
def j7o:CtxN [] (.sl true 0 []):=⟨_,_,_,rfl,.inr ⟨rfl,rfl,rfl⟩,rfl,by simp⟩
open Go Go.Am Go.Gw
def jnO(o:Except Int En):List PV:=match o with
 | .ok e=>[encE e,iv 0]
 | .error e=>[.ag zEn,iv e]
def jdd{k p fx ht a1 a2 b1 b2:Int}{nm a3 b3:List UInt8}{ty vl:Tm}{cs:List (List UInt8×Tm)}{a4 a7 b4 b7:Bool}{a5 a8 b5 b8:Nat}{a6 a9 b6 b9:List PV}(qA:TmP ty (.ag [iv a1,iv a2,sv a3,.sl a4 a5 a6,.sl a7 a8 a9]))(hA:TmP vl (.ag [iv b1,iv b2,sv b3,.sl b4 b5 b6,.sl b7 b8 b9]))(gA:nm.length≤140737488355328):
  EnP (enOf ⟨k,p,nm,ty,vl,fx,cs⟩ ht) (.ag [iv k,iv p,sv nm,iv a1,iv a2,sv a3,.sl a4 a5 a6,.sl a7 a8 a9,iv b1,iv b2,sv b3,.sl b4 b5 b6,.sl b7 b8 b9,iv ht,sv [],iv 0,iv 0,iv 0,.sl true 0 []]):=
 ⟨_,_,_,_,_,_,_,_,_,_,_,_,_,_,_,_,_,_,_,_,rfl,qA,hA,.inr ⟨rfl,rfl,rfl⟩,gA,by simp[enOf],by simp[enOf],by simp[enOf]⟩
def jem(d:Dc)(v:PV)(h:DcP d v)(ht:Int):Pf C1 78 [v,iv ht] (jnO (entryD d ht)):=by
 have hF:=jcT d v h;have hs:=j7y ht 1 1048576;unfold entryD plain8;obtain⟨k,p,nm,ty,vl,fx,cs,a1,a2,a3,a4,a5,a6,a7,a8,a9,b1,b2,b3,b4,b5,b6,b7,b8,b9,cb,cz,cx,qA,hA,hz,wA,hlen,gA,hk,hp,hB⟩:=h;have hC:=fun q=>jaZ _ _ (jdd (k:=k) (p:=p) (fx:=fx) (cs:=cs) (ht:=q) qA hA gA)
 have hE:=fun q=>j4h (jdd (k:=k) (p:=p) (fx:=fx) (cs:=cs) (ht:=q) qA hA gA)
 dsimp only;generalize j1F ⟨k,p,nm,ty,vl,fx,cs⟩=q at *;cases q with
 |false=>
  have hC:True:=trivial;have hs:True:=trivial;refine gR Tryz.func78 ?_;repeat'(first|refine gU ?_|apply gE<;>intro h|apply gM<;>intro h|refine gX hF ?_|refine gX hs ?_|refine j01 hC fun _=>?_|refine gX hC ?_|apply gK)<;>conv=>whnf
  all_goals first|rfl|(exfalso;omega)
 |true=>
  by_cases c5:k=5
  ·subst c5;have hC:True:=trivial;have hs:True:=trivial;refine gR Tryz.func78 ?_;repeat'(first|refine gU ?_|apply gE<;>intro h|apply gM<;>intro h|refine gX hF ?_|refine gX hs ?_|refine j01 hC fun _=>?_|refine gX hC ?_|apply gK)<;>conv=>whnf
   all_goals first|rfl|(exfalso;omega)
  have e5:(true && !decide (k=5))=true:=by simp[c5]
  rw[e5]
  by_cases c2:k=2
  ·by_cases c3:1≤ht∧ht≤1048576
   ·have e3:j3D ht 1 1048576=true:=by simp[j3D,c3]
    rw[e3] at hs;rw[if_pos c2,if_pos c3];have hC:=hC ht;obtain⟨tk,tn,ts,tb,tz',txs,tc,ty',tys,vk,vn,vs,vb,vz,vxs,vc,vy,vys,b',z',hE⟩:=hE ht;simp only[jnO];rw[hE] at hC⊢;refine gR Tryz.func78 ?_;repeat'(first|refine gU ?_|apply gE<;>intro h|apply gM<;>intro h|refine gX hF ?_|refine gX hs ?_|refine j01 hC fun _=>?_|refine gX hC ?_|apply gK)<;>conv=>whnf
    all_goals first|rfl|(exfalso;omega)
   ·have e3:j3D ht 1 1048576=false:=by
     cases e:j3D ht 1 1048576 with
     |false=>rfl
     |true=>
      simp[j3D] at e;exact absurd e c3
    rw[e3] at hs;rw[if_pos c2,if_neg c3];have hC:True:=trivial;refine gR Tryz.func78 ?_;repeat'(first|refine gU ?_|apply gE<;>intro h|apply gM<;>intro h|refine gX hF ?_|refine gX hs ?_|refine j01 hC fun _=>?_|refine gX hC ?_|apply gK)<;>conv=>whnf
    all_goals first|rfl|(exfalso;omega)
  ·rw[if_neg c2];have hC:=hC 0;obtain⟨tk,tn,ts,tb,tz',txs,tc,ty',tys,vk,vn,vs,vb,vz,vxs,vc,vy,vys,b',z',hE⟩:=hE 0;simp only[jnO];rw[hE] at hC⊢;refine gR Tryz.func78 ?_;repeat'(first|refine gU ?_|apply gE<;>intro h|apply gM<;>intro h|refine gX hF ?_|refine gX hs ?_|refine j01 hC fun _=>?_|refine gX hC ?_|apply gK)<;>conv=>whnf
   all_goals first|rfl|(exfalso;omega)
section
variable{E:Nv}{cs:List PV}{tot:Int}{n:Nat}
def jou(hE:NvP E (.cp cs))(ht:tot≤1048576)(d:Dc)(v:PV)(h:DcP d v)(l:Int)(r:Except Int Unit)(l':Int)(h0:0≤l)(h1:l≤tot)(hx:j3v E n d l=some (r,l')):IrU 77 [xI,v] cs tot l r l':=by
 obtain⟨k,p,nm,ty,vl,fx,dcs,a1,a2,a3,a4,a5,a6,a7,a8,a9,b1,b2,b3,b4,b5,b6,b7,b8,b9,cb,cz,cx,hA,qA,hz,hB,hlen,qB,hk,hp,wB⟩:=h;unfold j3v at hx;dsimp only at hx;rcases j0b hx with⟨e,q1,rfl⟩|⟨x,la,q1,q2⟩
 ·obtain⟨-,he,hf⟩:=j8I hE ht [] _ j7o ty _ hA l _ l' h0 h1 q1;have he:=he _ rfl;simp only[errL] at hf;refine⟨he,?_⟩;refine gR Tryz.func77 ?_;repeat'(first|refine gU ?_|apply gE<;>intro h|apply gM<;>intro h|refine gW hf ?_|apply gK)<;>conv=>whnf
  all_goals exact gJ
 obtain⟨hw,-,hf⟩:=j8I hE ht [] _ j7o ty _ hA l _ la h0 h1 q1;have hw:=hw x rfl;simp only[errL] at hf;have hZ:=jaA x _ hw;have gB:=(j7p (E:=E) n [] ty).dn l _ la h0 q1;obtain⟨k4,n4,b4',z4,x4,wA⟩:=j0t x;rw[wA] at hf hZ;rcases j0b q2 with⟨e,q3,rfl⟩|⟨u0,lb,q3,q4⟩
 ·obtain⟨rfl,d2⟩:=j1k q3;rcases d2 with⟨-,d2⟩|⟨d1,d2⟩
  ·cases d2
  cases d2;obtain⟨c3,cz0⟩:k=3∧ja7 x=false:=by simpa using d1
  rw[cz0] at hZ;refine⟨by omega,?_⟩
  refine gR Tryz.func77 ?_;repeat'(first|refine gU ?_|apply gE<;>intro h|apply gM<;>intro h|refine gW hf ?_|refine gX hZ ?_|apply gK)<;>conv=>whnf
  all_goals exact gJ
 obtain⟨rfl,d2⟩:=j1k q3;rcases d2 with⟨d1,-⟩|⟨-,d2⟩
 rotate_left
 ·cases d2
 have gA:k=3→ja7 x=true:=fun c3=>by simpa[c3] using d1
 by_cases c1:k=1
 ·subst c1;cases q4;show Fr _ _ _ _ _ (.ret [iv 0]) _
  have hZ:True:=trivial;refine gR Tryz.func77 ?_;repeat'(first|refine gU ?_|apply gE<;>intro h|apply gM<;>intro h|refine gW hf ?_|apply gK)<;>conv=>whnf
  all_goals exact gJ
 ·rw[decide_eq_false c1] at q4;dsimp only at q4;have hg:=jdo hE ht [] _ j7o vl _ qA ty _ hA lb r l' (by omega) (by omega) q4
  by_cases c3:k=3
  ·rw[gA c3] at hZ;cases r with
   |error e=>
    obtain⟨he,hg⟩:=hg;refine⟨he,?_⟩;refine gR Tryz.func77 ?_;repeat'(first|refine gU ?_|apply gE<;>intro h|apply gM<;>intro h|refine gW hf ?_|refine gX hZ ?_|refine gW hg ?_|apply gK)<;>conv=>whnf
    all_goals exact gJ
   |ok u=>
    have hg:Fr _ _ _ _ _ (.ret [iv 0]) _:=hg;show Fr _ _ _ _ _ (.ret [iv 0]) _
    refine gR Tryz.func77 ?_;repeat'(first|refine gU ?_|apply gE<;>intro h|apply gM<;>intro h|refine gW hf ?_|refine gX hZ ?_|refine gW hg ?_|apply gK)<;>conv=>whnf
    all_goals exact gJ
  ·have hZ:True:=trivial;cases r with
   |error e=>
    obtain⟨he,hg⟩:=hg;refine⟨he,?_⟩;refine gR Tryz.func77 ?_;repeat'(first|refine gU ?_|apply gE<;>intro h|apply gM<;>intro h|refine gW hf ?_|refine gW hg ?_|apply gK)<;>conv=>whnf
    all_goals exact gJ
   |ok u=>
    have hg:Fr _ _ _ _ _ (.ret [iv 0]) _:=hg;show Fr _ _ _ _ _ (.ret [iv 0]) _
    refine gR Tryz.func77 ?_;repeat'(first|refine gU ?_|apply gE<;>intro h|apply gM<;>intro h|refine gW hf ?_|refine gW hg ?_|apply gK)<;>conv=>whnf
    all_goals exact gJ
def plV(r:Except Int En)(u:Int):List PV:=match r with
 | .ok e=>[encE e,iv u,iv 0]
 | .error e=>[.ag zEn,iv u,iv e]
def j8k(hE:NvP E (.cp cs))(h0:0≤tot)(ht:tot≤1048576)(d:Dc)(v:PV)(h:DcP d v)(r:Except Int En)(u:Int)(hx:j2T E n d tot=some (r,u)):Pf C1 24 [.cp cs,v,iv tot] (plV r u):=by
 have hw:=jcA cs tot h0 ht;have hF:=jcT d v h;have hH:=jsv E _ hE [d.nm] true 1 (.inl rfl) (by simp)
 have hD:=fun q=>jem d v h q
 have hJ:=fun r' l' hx=>jou (n:=n) hE ht d v h tot r' l' h0 (CX _) hx
 have hA:=fun t w hw=>jcV E _ hE t w hw
 unfold j2T plain8 at hx;obtain⟨k,p,nm,ty,vl,fx,dcs,a1,a2,a3,a4,a5,a6,a7,a8,a9,b1,b2,b3,b4,b5,b6,b7,b8,b9,cb,cz,cx,gA,qA,hz,gB,hlen,hB,hk,hp,wB⟩:=h;have hA:=hA vl _ qA;dsimp only at hx hH;have hN:=jaj cs tot tot;generalize j1F ⟨k,p,nm,ty,vl,fx,dcs⟩=q at *;cases q with
 |false=>
  cases hx;show Pf _ _ _ [.ag zEn,iv 0,iv 10]
  have hH:True:=trivial;refine gR Tryz.func24 ?_;repeat'(first|refine gU ?_|apply gE<;>intro h|apply gM<;>intro h|refine j6e hw rfl rfl (j1z rfl ?_)|refine gX hF ?_|refine gX hH ?_|apply gO|apply gK)<;>conv=>whnf
  all_goals first|rfl|(exfalso;omega)|contradiction
 |true=>
  by_cases c5:k=5
  ·subst c5;cases hx;show Pf _ _ _ [.ag zEn,iv 0,iv 10]
   have hH:True:=trivial;refine gR Tryz.func24 ?_;repeat'(first|refine gU ?_|apply gE<;>intro h|apply gM<;>intro h|refine j6e hw rfl rfl (j1z rfl ?_)|refine gX hF ?_|refine gX hH ?_|apply gO|apply gK)<;>conv=>whnf
   all_goals first|rfl|(exfalso;omega)|contradiction
  have e5:(true && !decide (k=5))=true:=by simp[c5]
  rw[e5] at hx;dsimp only at hx;cases hg:getR nm E.tr with
  |some i=>
   rw[hg] at hx;cases hx;have hH:Pf C1 28 [.cp cs,.sl true 1 [sv nm]] [bv true]:=by
    have e:([nm].all fun s=>(getR s E.tr).isSome)=true:=by simp[hg]
    rw[e] at hH;exact hH
   show Pf _ _ _ [.ag zEn,iv 0,iv 14]
   refine gR Tryz.func24 ?_;repeat'(first|refine gU ?_|apply gE<;>intro h|apply gM<;>intro h|refine j6e hw rfl rfl (j1z rfl ?_)|refine gX hF ?_|refine gX hH ?_|apply gO|apply gK)<;>conv=>whnf
   all_goals first|rfl|(exfalso;omega)|contradiction
  |none=>
   have hH:Pf C1 28 [.cp cs,.sl true 1 [sv nm]] [bv false]:=by
    have e:([nm].all fun s=>(getR s E.tr).isSome)=false:=by simp[hg]
    rw[e] at hH;exact hH
   rw[hg] at hx;dsimp only at hx;cases hj:j3v E n ⟨k,p,nm,ty,vl,fx,dcs⟩ tot with
   |none=>rw[hj] at hx;cases hx
   |some y=>
    obtain⟨y,l⟩:=y;have hJ:=hJ y l hj;have hU:=jkF cs tot l;rw[hj] at hx;cases y with
    |error e=>
     cases hx;obtain⟨he,hJ⟩:=hJ;show Pf _ _ _ [.ag zEn,iv (tot-l),iv e]
     refine gR Tryz.func24 ?_;repeat'(first|refine gU ?_|apply gE<;>intro h|apply gM<;>intro h|refine j6e hw rfl rfl (j1z rfl ?_)|refine gX hF ?_|refine gX hH ?_|refine j1B (i:=2) hN rfl rfl rfl rfl rfl rfl rfl ?_|refine j1B (i:=2) hJ rfl rfl rfl rfl rfl rfl rfl ?_|refine j1B (i:=2) hU rfl rfl rfl rfl rfl rfl rfl ?_|apply gK)<;>conv=>whnf
     all_goals first|rfl|(exfalso;omega)|contradiction
    |ok a=>
     cases hx;have hJ:Fr _ _ _ _ _ (.ret [iv 0]) _:=hJ;have hD:=hD (j2l E vl+1);have hb:=j9I (show NvOk E by obtain⟨_,_,_,_,_,_,wA⟩:=hE;exact wA) (j2J vl) 0 (by omega)
     have hb:0≤j2l E vl∧j2l E vl≤1048576:=hb;generalize j2l E vl=hh at *;cases hq:entryD ⟨k,p,nm,ty,vl,fx,dcs⟩ (hh+1) with
     |error e=>
      rw[hq] at hD;simp only[jnO] at hD;have he:=jbq hq;show Pf _ _ _ [.ag zEn,iv (tot-l),iv e]
      refine gR Tryz.func24 ?_;repeat'(first|refine gU ?_|apply gE<;>intro h|apply gM<;>intro h|refine j6e hw rfl rfl (j1z rfl ?_)|refine gX hF ?_|refine gX hH ?_|refine j1B (i:=2) hN rfl rfl rfl rfl rfl rfl rfl ?_|refine j1B (i:=2) hJ rfl rfl rfl rfl rfl rfl rfl ?_|refine j01 hA fun _=>?_|refine j01 hD fun _=>?_|refine gX hA ?_|refine gX hD ?_|refine j1B (i:=2) hU rfl rfl rfl rfl rfl rfl rfl ?_|apply gK)<;>conv=>whnf
      all_goals first|rfl|(exfalso;omega)|contradiction
     |ok en=>
      obtain⟨q,rfl⟩:=jbp hq;obtain⟨tk,tn,ts,tb,tz',txs,tc,ty',tys,vk,vn,vs,vb,vz,vxs,vc,vy,vys,b',z',qB⟩:=j4h (jdd (k:=k) (p:=p) (fx:=fx) (cs:=dcs) (ht:=q) gA qA hB);rw[hq] at hD;simp only[jnO] at hD;show Pf _ _ _ [encE _,iv (tot-l),iv 0]
      rw[qB] at hD⊢;refine gR Tryz.func24 ?_;repeat'(first|refine gU ?_|apply gE<;>intro h|apply gM<;>intro h|refine j6e hw rfl rfl (j1z rfl ?_)|refine gX hF ?_|refine gX hH ?_|refine j1B (i:=2) hN rfl rfl rfl rfl rfl rfl rfl ?_|refine j1B (i:=2) hJ rfl rfl rfl rfl rfl rfl rfl ?_|refine j01 hA fun _=>?_|refine j01 hD fun _=>?_|refine gX hA ?_|refine gX hD ?_|refine j1B (i:=2) hU rfl rfl rfl rfl rfl rfl rfl ?_|apply gK)<;>conv=>whnf
      all_goals first|rfl|(exfalso;omega)|contradiction
end
open Go Go.Am Go.Gw
def jfd(l:List (List UInt8))(b b2:Bool)(z z2:Nat)(hz:z=1∨l=[])(qA:z2=1∨l=[])(qB:l.length≤1000000):Pf C1 40 [.sl b z (svs l),.sl b2 z2 (svs l)] [bv true]:=by
 have hlen:(svs l).length=l.length:=by simp
 have gA:z=1∨svs l=[]:=j6b hz;have hA:z2=1∨svs l=[]:=j6b qA;have h0:((svs l).length:Int)=(svs l).length:=rfl;refine gR Tryz.func40 ?_;repeat'(first|refine gU ?_|apply gE<;>intro h|apply gM<;>intro h|apply gK)<;>conv=>whnf
 all_goals first|(exfalso;omega)|skip
 refine j04 (G:=Nat) (fun i=>[(5,iv i)]) (fun _=>_) (fun i=>i≤l.length) (fun i=>l.length-i) 0 (by omega) rfl rfl ?_
 intro i hi;dsimp only at hi⊢;repeat'(first|refine gU ?_|apply gE<;>intro h|apply gM<;>intro h|apply gK)<;>conv=>whnf
 have wA:i<l.length:=by omega
 obtain⟨s,hs⟩:∃s,l[i]?=some s:=⟨_,AA wA⟩;have hv:=j7Q hs;have hB:(!(s == s))=false:=by simp
 repeat'(first|refine gU ?_|apply gE<;>intro h|apply gM<;>intro h|refine VNat.mk i rfl ?_|refine VIdx.mk _ hv ?_|refine gZ gA ?_|refine gZ hA ?_|refine j1w ?_|apply gK)<;>conv=>whnf
 all_goals first|exact VAgain.mk _ rfl _ (j0a rfl rfl rfl) ⟨i+1,by omega,by omega,rfl⟩|(exfalso;simp_all;done)
def EnP.names{v:PV}(h:EnP e v):e.ctors.length≤1000000:=by
 obtain⟨a1,a2,a3,a4,a5,a6,a7,a8,a9,a10,a11,a12,a13,a14,a15,a16,a17,a18,a19,a20,rfl,-,-,-,-,-,h,-⟩:=h;exact h
def j8Z(e:En)(v w:PV)(hv:EnP e v)(hw:EnP e w):Pf C1 26 [v,w] [bv true]:=by
 obtain⟨kind,pars,nm,ty,val,ht,fam,fixd,idx,flds,ctors⟩:=e;obtain⟨tk,tn,ts,tb,tz',txs,tc,ty',tys,vk,vn,vs,vb,vz,vxs,vc,vy,vys,b,z,rfl,hB,qA,hz,wB,gB,qB,hC⟩:=hv;obtain⟨sk,sn,ss,sb,sz,sxs,sc,sy,sys,uk,un,us,ub,uz,uxs,uc,uy,uys,b2,z2,rfl,gA,hA,wA,-⟩:=hw;dsimp only at hB qA gA hA hz wA qB;have h1:=j2D ty _ hB ty _ gA;have h2:=j2D val _ qA val _ hA;rw[(jes ty ty).2 rfl] at h1;rw[(jes val val).2 rfl] at h2;have h3:=jfd ctors b b2 z z2 (hz.imp (·.1) (·.1)) (wA.imp (·.1) (·.1)) qB
 have e1:kind=kind:=rfl;have e2:pars=pars:=rfl;have e3:ht=ht:=rfl;have e4:fixd=fixd:=rfl;have e5:idx=idx:=rfl;have e6:flds=flds:=rfl;have s1:(nm == nm)=true:=by simp
 have s2:(fam == fam)=true:=by simp
 refine gR Tryz.func26 ?_;repeat'(first|refine gU ?_|apply gE<;>intro h|apply gM<;>intro h|refine j1w ?_|refine gX h1 ?_|refine gX h2 ?_|refine gX h3 ?_|apply gK)<;>conv=>whnf
 all_goals first|rfl|contradiction
def jbz(d:Dc)(v:PV)(h:DcP d v):∃q,Pf C1 23 [v] [bv q]:=by
 obtain⟨b,-,hb⟩:=jcU d v h;suffices hh:Finds C1 23 [v] [] fun r _=>∃q:Bool,True∧r=.ret [bv q] by
  obtain⟨q,-,hq⟩:=Finds.out (P:=fun _=>True) (R:=fun q=>.ret [bv q]) hh
  exact⟨q,hq⟩
 obtain⟨k,p,nm,ty,vl,fx,dcs,a1,a2,a3,a4,a5,a6,a7,a8,a9,b1,b2,b3,b4,b5,b6,b7,b8,b9,cb,cz,cx,qA,hA,hz,gA,hlen,wA,hk,hp,hB⟩:=h;have h1:=j3H ty _ qA 80 (by omega) (by omega)
 have h2:=j3H vl _ hA 80 (by omega) (by omega)
 refine gR Tryz.func23 ?_;cases b with
 |true=>
  repeat'(first|refine gU ?_|apply gE<;>intro h|apply gM<;>intro h|refine gX hb ?_|apply gK)<;>conv=>whnf
  all_goals exact⟨_,trivial,rfl⟩
 |false=>
  repeat'(first|refine gU ?_|apply gE<;>intro h|apply gM<;>intro h|refine gX hb ?_|refine gX h1 ?_|refine gX h2 ?_|apply gK)<;>conv=>whnf
  all_goals exact⟨_,trivial,rfl⟩
section
variable{E:Nv}{cs:List PV}{tot:Int}{n:Nat}
def jp6{d:Dc}{e:En}{u:Int}(hx:j2T E n d tot=some (.ok e,u)):j1y e=true∧e.nm=d.nm∧getR e.nm E.tr=none:=by
 unfold j2T at hx;split at hx
 ·cases hx
 split at hx
 ·cases hx
 rename_i hg;split at hx
 ·cases hx
 ·cases hx
 ·simp only[AD,BB] at hx;obtain⟨hq,-⟩:=hx;obtain⟨q,rfl⟩:=jbp hq;exact⟨jgg hq,rfl,hg⟩
def AddR(E:Nv)(f:FuncId)(args:List PV)(r:Except Int En)(u:Int):Prop:=match r with
 | .ok e=>NvG (E.push e)∧∃cs',NvP (E.push e) (.cp cs')∧Pf C1 f args [.cp cs',iv u,iv 0]
 | .error e=>Pf C1 f args [nilP,iv u,iv e]
def j6r(hE:NvP E (.cp cs))(hG:NvG E)(hl:E.es.length<3000)(h0:0≤tot)(ht:tot≤1048576)(d:Dc)(v:PV)(h:DcP d v)(r:Except Int En)(u:Int)(hz:∀e,r=.error e→¬e=0)(hx:j2T E n d tot=some (r,u)):AddR E 27 [.cp cs,v,iv tot] r u:=by
 have hP:=j8k hE h0 ht d v h r u hx;obtain⟨k,p,nm,ty,vl,fx,dcs,a1,a2,a3,a4,a5,a6,a7,a8,a9,b1,b2,b3,b4,b5,b6,b7,b8,b9,cb,cz,cx,gA,qA,qB,gB,hlen,wA,hk,hp,wB⟩:=h;cases r with
 |error e=>
  have he:=hz e rfl;simp only[plV] at hP;show Pf _ _ _ _
  refine gR Tryz.func27 ?_;repeat'(first|refine gU ?_|apply gE<;>intro h|apply gM<;>intro h|refine gX hP ?_|apply gK)<;>conv=>whnf
  all_goals first|rfl|contradiction
 |ok e=>
  obtain⟨hr,hn,hg⟩:=jp6 hx;have hw:EnP e (encE e):=by
   unfold j2T at hx;split at hx
   ·cases hx
   split at hx
   ·cases hx
   split at hx
   ·cases hx
   ·cases hx
   ·simp only[AD,BB] at hx;obtain⟨q,rfl⟩:=jbp hx.1;exact j5H (jdd (ht:=q) gA qA wA)
  obtain⟨g1,v',g2,hA⟩:=jpY E _ hE hG e _ hw hr hg hl;have g2':=g2;obtain⟨b',z',xs',rfl,-⟩:=g2';refine⟨g1,_,g2,?_⟩;obtain⟨tk,tn,ts,tb,tz',txs,tc,ty',tys,vk,vn,vs,vb,vz,vxs,vc,vy,vys,b9',z9,hB⟩:=j4h hw;simp only[plV] at hP;rw[hB] at hP hA;generalize j9c (E.push e).tr=tp at *;refine gR Tryz.func27 ?_;repeat'(first|refine gU ?_|apply gE<;>intro h|apply gM<;>intro h|refine gX hP ?_|refine j7B rfl rfl hA rfl ?_|apply gK)<;>conv=>whnf
  all_goals first|rfl|contradiction
noncomputable def allF(n:Nat)(tot:Int):Nv→List Dc→Nat→Int→Option (Option Nv×Int×Int)
 |E,[],_,s=>some (some E,s,0)
 |E,d::r,i,s=>match j2T E n d tot with
  |none=>none
  |some (.error e,_)=>some (none,i,e)
  |some (.ok e,u)=>allF n tot (E.push e) r (i+1) (s+u)
def AllR(f:FuncId)(args:List PV)(r:Option Nv×Int×Int):Prop:=match r with
 |(some E,s,e)=>NvG E∧∃cs',NvP E (.cp cs')∧Pf C1 f args [.cp cs',iv s,iv e]
 |(none,s,e)=>Pf C1 f args [nilP,iv s,iv e]
inductive DcsP:List Dc→List PV→Prop where
 |nil:DcsP [] []
 |cons {d:Dc}{v:PV}{ds:List Dc}{vs:List PV}:DcP d v→DcsP ds vs→DcsP (d::ds) (v::vs)
def DcsP.len{ds:List Dc}{vs:List PV}(h:DcsP ds vs):vs.length=ds.length:=by
 induction h with
 |nil=>rfl
 |cons _ _ ih=>simp[ih]
def DcsP.at{ds:List Dc}{vs:List PV}(h:DcsP ds vs):∀{i:Nat}{d:Dc},ds[i]?=some d→∃v,vs[i]?=some v∧DcP d v:=by
 induction h with
 |nil=>intro i d hi;simp at hi
 |cons h1 _ ih=>
  intro i d hi;cases i with
  |zero=>simp at hi;subst hi;exact⟨_,rfl,h1⟩
  |succ i=>simpa using ih (by simpa using hi)
end
open Go Go.Am Go.Gw
open Go Go.ChangeShapes Go.WideShapes Go.ChangeAt Go.RowKit Go.Am Go.Gw
section
variable{H:Type}{enc:TypeId×Value→H}{W:World}{r:Reach}{b0:Nat}{v:Value}{d:DataW H}{ps:List MemPlace}
def jrn:Tryz.prog.readableRec 47=true∧47<Tryz.prog.types.size:=⟨by kernel_rfl,of_decide_eq_true (by kernel_rfl)⟩
def jiS(fuel:Nat)(cs:List Value)(x:DataW H×List MemPlace)(h:DataW.trod enc Tryz.prog W 0 (fun _=>true) true fuel 25 cs=some x)(hw:∀n∈x.1.weights Tryz.prog 25,n≤reachBytes):∃t ps,TmP t (.ag ps)∧Rl (memB W) noPh ps cs∧ps.all cell=true∧cs.length=5:=
 juM Tryz.underlying25 Tryz.underlying22 Tryz.underlying86 Tryz.underlying23 Tryz.underlying3 Tryz.underlying9 (by kernel_rfl) (by kernel_rfl) (by kernel_rfl) (by kernel_rfl) (by kernel_rfl) (by kernel_rfl) (by kernel_rfl) (by kernel_rfl) rfl rfl rfl rfl rfl rfl rfl rfl rfl rfl rfl rfl rfl rfl rfl rfl fuel cs x h hw
def jsP(fuel:Nat)(cs:List Value)(x:DataW H×List MemPlace)(h:DataW.trod enc Tryz.prog W 0 (fun _=>true) true fuel 125 cs=some x)(hw:∀n∈x.1.weights Tryz.prog 125,n≤reachBytes):∃c ps,LoP c (.ag ps)∧Rl (memB W) noPh ps cs∧ps.all cell=true∧cs.length=6:=by
 have hT:=Tryz.underlying125;obtain⟨xs,n,rfl,rfl,hlen,qA,hf⟩:=DataW.trod_struct hT h;rw[show Tryz.prog.cellsOf 125=6 by kernel_rfl] at hlen
 obtain⟨c0,c1,c2,c3,c4,c5,rfl⟩:∃c0 c1 c2 c3 c4 c5,cs=[c0,c1,c2,c3,c4,c5]:=by
  match cs,hlen with
  |[c0,c1,c2,c3,c4,c5],_=>exact⟨c0,c1,c2,c3,c4,c5,rfl⟩
 obtain⟨y0,y1,rfl⟩:∃y0 y1,xs=[y0,y1]:=by
  match xs,qA with
  |[y0,y1],_=>exact⟨y0,y1,rfl⟩
 have g0:DataW.trod enc Tryz.prog W 0 (fun _=>true) true n 9 (([c0,c1,c2,c3,c4,c5].drop 0).take (Tryz.prog.cellsOf 9))=some y0:=hf 0 _ rfl
 have g1:DataW.trod enc Tryz.prog W 0 (fun _=>true) true n 25 (([c0,c1,c2,c3,c4,c5].drop 1).take (Tryz.prog.cellsOf 25))=some y1:=hf 1 _ rfl
 rw[show Tryz.prog.cellsOf 9=1 by kernel_rfl] at g0
 rw[show Tryz.prog.cellsOf 25=5 by kernel_rfl] at g1
 replace g0:DataW.trod enc Tryz.prog W 0 (fun _=>true) true n 9 [c0]=some y0:=g0
 replace g1:DataW.trod enc Tryz.prog W 0 (fun _=>true) true n 25 [c1,c2,c3,c4,c5]=some y1:=g1
 obtain⟨s,hs,rfl,_⟩:=DataW.trod_string Tryz.underlying9 g0;cases hs;have hA:∀(j:Nat) (t:TypeId) (d:DataW H),([9,25]:List TypeId)[j]?=some t→([.lit (.string s.data.toList),y1.1]:List (DataW H))[j]?=some d→∀n∈d.weights Tryz.prog t,n≤reachBytes:=fun j t d hj hd u hu=>hw u (by
  simp only[DataW.weights,hT,BC,CE];exact DataW.weights_mem_each (j:=j) hj hd u hu)
 have wA:s.data.toList.length≤reachBytes:=hA 0 9 _ rfl rfl _ (by simp[DataW.weights])
 have gA:=hA 1 25 y1.1 rfl rfl;obtain⟨t,ps,h1,h2,h3,h4⟩:=jiS n _ y1 g1 gA;unfold reachBytes at wA;refine⟨(s.data.toList,t),sv s.data.toList::ps,⟨ps,rfl,h1,by dsimp only;omega⟩,.cons ?_ h2,?_,rfl⟩
 ·rw[jcf s];exact .sc rfl
 ·rw[BH,h3];rfl
def LosP.of:∀{zs:List ((List UInt8×Tm)×List PV)},(∀(i:Nat) (z:(List UInt8×Tm)×List PV),zs[i]?=some z→LoP z.1 (.ag z.2))→LosP (zs.map (·.1)) (zs.map fun z=>.ag z.2)
 |[],_=>by simp only[CE,LosP]
 |z::r,h=>by
  simp only[BC,LosP];exact⟨_,_,rfl,h 0 z rfl,LosP.of fun i z' hz=>h (i+1) z' (by simpa using hz)⟩
def jsQ(fuel:Nat)(cs:List Value)(x:DataW H×List MemPlace)(h:DataW.trod enc Tryz.prog W 0 (fun _=>true) true fuel 47 cs=some x)(hw:∀n∈x.1.weights Tryz.prog 47,n≤reachBytes):∃c ps,DcP c (.ag ps)∧Rl (memB W) noPh ps cs∧ps.all cell=true∧cs.length=15:=by
 have hT:=Tryz.underlying47;obtain⟨xs,n,rfl,rfl,hlen,wA,hf⟩:=DataW.trod_struct hT h;rw[show Tryz.prog.cellsOf 47=15 by kernel_rfl] at hlen
 obtain⟨c0,c1,c2,c3,c4,c5,c6,c7,c8,c9,c10,c11,c12,c13,c14,rfl⟩:∃c0 c1 c2 c3 c4 c5 c6 c7 c8 c9 c10 c11 c12 c13 c14,cs=[c0,c1,c2,c3,c4,c5,c6,c7,c8,c9,c10,c11,c12,c13,c14]:=by
  match cs,hlen with
  |[c0,c1,c2,c3,c4,c5,c6,c7,c8,c9,c10,c11,c12,c13,c14],_=>exact⟨c0,c1,c2,c3,c4,c5,c6,c7,c8,c9,c10,c11,c12,c13,c14,rfl⟩
 obtain⟨y0,y1,y2,y3,y4,y5,y6,rfl⟩:∃y0 y1 y2 y3 y4 y5 y6,xs=[y0,y1,y2,y3,y4,y5,y6]:=by
  match xs,wA with
  |[y0,y1,y2,y3,y4,y5,y6],_=>exact⟨y0,y1,y2,y3,y4,y5,y6,rfl⟩
 have g0:DataW.trod enc Tryz.prog W 0 (fun _=>true) true n 3 (([c0,c1,c2,c3,c4,c5,c6,c7,c8,c9,c10,c11,c12,c13,c14].drop 0).take (Tryz.prog.cellsOf 3))=some y0:=hf 0 _ rfl
 have g1:DataW.trod enc Tryz.prog W 0 (fun _=>true) true n 3 (([c0,c1,c2,c3,c4,c5,c6,c7,c8,c9,c10,c11,c12,c13,c14].drop 1).take (Tryz.prog.cellsOf 3))=some y1:=hf 1 _ rfl
 have g2:DataW.trod enc Tryz.prog W 0 (fun _=>true) true n 9 (([c0,c1,c2,c3,c4,c5,c6,c7,c8,c9,c10,c11,c12,c13,c14].drop 2).take (Tryz.prog.cellsOf 9))=some y2:=hf 2 _ rfl
 have g3:DataW.trod enc Tryz.prog W 0 (fun _=>true) true n 25 (([c0,c1,c2,c3,c4,c5,c6,c7,c8,c9,c10,c11,c12,c13,c14].drop 3).take (Tryz.prog.cellsOf 25))=some y3:=hf 3 _ rfl
 have g4:DataW.trod enc Tryz.prog W 0 (fun _=>true) true n 25 (([c0,c1,c2,c3,c4,c5,c6,c7,c8,c9,c10,c11,c12,c13,c14].drop 8).take (Tryz.prog.cellsOf 25))=some y4:=hf 4 _ rfl
 have g5:DataW.trod enc Tryz.prog W 0 (fun _=>true) true n 3 (([c0,c1,c2,c3,c4,c5,c6,c7,c8,c9,c10,c11,c12,c13,c14].drop 13).take (Tryz.prog.cellsOf 3))=some y5:=hf 5 _ rfl
 have g6:DataW.trod enc Tryz.prog W 0 (fun _=>true) true n 45 (([c0,c1,c2,c3,c4,c5,c6,c7,c8,c9,c10,c11,c12,c13,c14].drop 14).take (Tryz.prog.cellsOf 45))=some y6:=hf 6 _ rfl
 rw[show Tryz.prog.cellsOf 3=1 by kernel_rfl] at g0 g1 g5
 rw[show Tryz.prog.cellsOf 9=1 by kernel_rfl] at g2
 rw[show Tryz.prog.cellsOf 25=5 by kernel_rfl] at g3 g4
 rw[show Tryz.prog.cellsOf 45=1 by kernel_rfl] at g6
 replace g0:DataW.trod enc Tryz.prog W 0 (fun _=>true) true n 3 [c0]=some y0:=g0
 replace g1:DataW.trod enc Tryz.prog W 0 (fun _=>true) true n 3 [c1]=some y1:=g1
 replace g2:DataW.trod enc Tryz.prog W 0 (fun _=>true) true n 9 [c2]=some y2:=g2
 replace g3:DataW.trod enc Tryz.prog W 0 (fun _=>true) true n 25 [c3,c4,c5,c6,c7]=some y3:=g3
 replace g4:DataW.trod enc Tryz.prog W 0 (fun _=>true) true n 25 [c8,c9,c10,c11,c12]=some y4:=g4
 replace g5:DataW.trod enc Tryz.prog W 0 (fun _=>true) true n 3 [c13]=some y5:=g5
 replace g6:DataW.trod enc Tryz.prog W 0 (fun _=>true) true n 45 [c14]=some y6:=g6
 obtain⟨k,hk,_,wk⟩:=DataW.trod_int Tryz.underlying3 g0;obtain⟨p,hp,_,wp⟩:=DataW.trod_int Tryz.underlying3 g1;obtain⟨fx,hx,_,wx⟩:=DataW.trod_int Tryz.underlying3 g5;obtain⟨s,hs,rfl,_⟩:=DataW.trod_string Tryz.underlying9 g2;cases hk;cases hp;cases hx;cases hs;have gA:∀(j:Nat) (t:TypeId) (d:DataW H),([3,3,9,25,25,3,45]:List TypeId)[j]?=some t→([y0.1,y1.1,.lit (.string s.data.toList),y3.1,y4.1,y5.1,y6.1]:List (DataW H))[j]?=some d→∀n∈d.weights Tryz.prog t,n≤reachBytes:=fun j t d hj hd u hu=>hw u (by
  simp only[DataW.weights,hT,BC,CE];exact DataW.weights_mem_each (j:=j) hj hd u hu)
 have qC:s.data.toList.length≤reachBytes:=gA 2 9 _ rfl rfl _ (by simp[DataW.weights])
 have wB:=gA 3 25 y3.1 rfl rfl;have gB:=gA 4 25 y4.1 rfl rfl;have qB:=gA 6 45 y6.1 rfl rfl;obtain⟨ty,p3,t1,t2,t3,-⟩:=jiS n _ y3 g3 wB;obtain⟨vl,p4,v1,v2,v3,-⟩:=jiS n _ y4 g4 gB;obtain⟨zs,z1,z2,z3⟩:=jfh (V:=LoP) Tryz.underlying45 (show Tryz.prog.cellsOf 125=6 by kernel_rfl) (by omega) (show Tryz.prog.bytesOf 125=96 by kernel_rfl) n c14 y6 g6 qB (fun n' _ cs' x' hB hC=>jsP n' cs' x' hB hC)
 unfold reachBytes at qC z3;have hi:∀{q:Int},(Lit.int .i64 q).wf=true→Gw.i64 q:=fun{q} this=>by
  simp[Lit.wf,IntKind.min,IntKind.max,IntKind.signed,IntKind.bits] at this;unfold Gw.i64;omega
 obtain⟨u1,u2,u3,u4,u5,u6,u7,u8,u9,u10,u11,wC,qA,-⟩:=t1.open;obtain⟨x1,x2,x3,x4,x5,x6,x7,x8,x9,x10,x11,gC,hA,-⟩:=v1.open
 injection qA with qA
 injection hA with hA
 subst qA hA;refine⟨⟨k,p,s.data.toList,ty,vl,fx,zs.map (·.1)⟩,_,.mk k p s.data.toList ty vl fx (zs.map (·.1)) _ _ _ _ _ _ _ _ _ _ _ _ _ _ _ _ _ _ false 6 (zs.map fun z=>.ag z.2) t1 v1 (.inl rfl) (LosP.of z1) (by rw[AZ];omega) (by omega) (hi wk) (hi wp) (hi wx),.cons (.sc rfl) (.cons (.sc rfl) (.cons ?_ (t2.append (v2.append (.cons (.sc rfl) (.cons z2 .nil)))))),rfl,rfl⟩
 rw[jcf s];exact .sc rfl
def jqi(hv:Value.okWide Tryz.prog W r b0 47 v)(h:DataW.Trod enc Tryz.prog W 0 (fun _=>true) true 47 v d ps)(hw:∀n∈d.weights Tryz.prog 47,n≤reachBytes):
  ∃t pv,DcP t pv∧Am.R (memB W) Am.noPh pv v:=by
 obtain⟨cs,rfl,hsz⟩:=okWide_struct Tryz.underlying47 hv;obtain⟨fuel,hf⟩:=h;obtain⟨l,ps,h1,h2,h3,h4⟩:=jsQ fuel _ _ hf hw;refine⟨l,.ag ps,h1,?_⟩;have hA:Am.Rl (memB W) Am.noPh ps cs.toList:=by simpa[Value.cells] using h2
 have:=Am.R.ag hA.1 h3 hA.2;simpa using this
end
end Go.Proofs.YtbnodhcijeaceaaGreatDoor
namespace Go.Am
open Go Go.Hb
section
variable{C:Cfg}
open Classical in
noncomputable def j5T(C:Cfg)(f:FuncId)(args:List PV)(st:Sto):Option (AEnd×Sto):=if h:∃q,∃n,(ev C n).call f args st=some q then some h.choose else none
variable{f:FuncId}{args:List PV}{st:Sto}
def jka{q:AEnd×Sto}{n:Nat}(h:(ev C n).call f args st=some q):j5T C f args st=some q:=by
 have hx:∃q,∃n,(ev C n).call f args st=some q:=⟨q,n,h⟩;unfold j5T;rw[dif_pos hx];obtain⟨k,hk⟩:=hx.choose_spec;have h1:=ji2 (r:=hx.choose) hk (Nat.le_max_left k n);have h2:=ji2 (r:=q) h (Nat.le_max_right k n);exact h1.symm.trans h2
def jlO{r:AEnd}{st':Sto}(h:j5T C f args st=some (r,st')):∃n,(ev C n).call f args st=some (r,st'):=by
 unfold j5T at h;split at h
 ·rename_i hx;obtain⟨k,hk⟩:=hx.choose_spec;rw[BP h] at hk;exact⟨k,hk⟩
 ·cases h
def j5g(hC:∀n,CallOk C.P (ev C n).call)(f:FuncId):j2Z (j8i C.P f) (j5T C f):=jsV (C':=C) (C:=C) rfl hC fun _ _ _ _ h=>jlO h
def orN(F G:List PV→Sto→Option (AEnd×Sto))(args:List PV)(st:Sto):Option (AEnd×Sto):=match F args st with
 |some r=>some r
 |none=>G args st
def jll{C C':Cfg}{Q:AEnd→Sto→Prop}{F:List PV→Sto→Option (AEnd×Sto)}(hn:C'.nat f=some F)(hF:∀r st',j5T C f args st=some (r,st')→F args st=some (r,st'))(h:Finds C f args st Q):Finds C' f args st Q:=by
 obtain⟨r,st',hq,N,hN⟩:=h;exact j8B hn (hF _ _ (jka (hN N (AU N)))) hq
end
end Go.Am
namespace Go.Proofs.YtbnodhcijeaceaaGreatDoor
open Go Go.Am Go.Gw
noncomputable def nat6(f:FuncId):Option (List PV→Sto→Option (AEnd×Sto)):=match Nat.beq f 19||Nat.beq f 4 with
 |true=>none
 |false=>match Nat.beq f 69 with
  |true=>some (orN jnn (j5T C1 f))
  |false=>some (j5T C1 f)
noncomputable def C6:Cfg:=⟨C1.P,C1.fz,C1.raw,C1.keep,C1.lit,nat6,C1.fzc,fun _=>false,false⟩
def Fr6(f:FuncId)(args:List PV)(cs:List PV)(tot l:Int)(r:AEnd)(l':Int):Prop:=Finds C6 f args [runB cs tot l] fun r' st'=>r'=r∧st'=[runB cs tot l']
def CtxA(ctx:List Tm)(v:PV):Prop:=CtxN ctx v∨(ctx=[]∧v=.sl false 5 [])
section
variable{E:Nv}{cs:List PV}{tot:Int}{n:Nat}
end

/- Environments with an entry more, whatever its name (package env): plain law; then what is asked of environments. -/
import Derived.Test.YtbnodhcijeaceaaGreatDoorZRd
set_option linter.all false
set_option maxHeartbeats 2000000
set_option maxRecDepth 1000000
namespace Go.Proofs.YtbnodhcijeaceaaGreatDoor
open Go Go.Am Go.Gw
structure NvG (E:Nv):Prop where
 ok:NvOk E
 bst:E.tr.bst
 ex:E.tr.ex
 cnt:E.tr.count≤E.es.length
theorem juh:NvG nv0:=⟨⟨fun s i h=>(by cases h),fun e h=>(by cases h),by simp[nv0]⟩,trivial,trivial,by simp[nv0,Tr.count]⟩
variable{e:En}{E:Nv}
theorem NvG.push(h:NvG E)(hr:j1u e=true)(hl:E.es.length<3000):NvG (E.push e)∧jeL e.nm E.es.length E.tr:=by
 obtain⟨p1,p2,p3⟩:=jbC (s:=e.nm) (n:=E.es.length) h.ex;have hc:=h.cnt;refine⟨⟨⟨fun s i hi=>?_,fun x hx=>?_,?_⟩,jeM h.bst,p1,?_⟩,ji5 h.ex (by omega)⟩
 ·have hle:(E.push e).es.length=E.es.length+1:=by simp[Nv.push]
  rw[hle];rcases jbD (jhK hi) with⟨-,rfl⟩|hi
  ·omega
  ·have:=h.ok.idx s i (jei h.bst hi);omega
 ·rcases List.mem_append.1 hx with hx|hx
  ·exact h.ok.right x hx
  ·rw[List.mem_singleton.1 hx];exact hr
 ·simp only[Nv.push,List.length_append,List.length_cons,List.length_nil];omega
 ·simp only[Nv.push,List.length_append,List.length_cons,List.length_nil];omega
theorem NvG.adds:∀{es:List En}{E:Nv},NvG E→jfm E es→E.es.length+es.length≤3000→NvG (jfl E es)
 |[],E,h,_,_=>h
 |e::r,E,h,⟨⟨o1,o2,o3,o4,o5⟩,o6⟩,hl=>by
  simp only[List.length_cons] at hl;refine NvG.adds (es:=r) (E:=E.push e) (h.push o1 (by omega)).1 o6 ?_
  simp only[Nv.push,List.length_append,List.length_cons,List.length_nil];omega
theorem jpc(E:Nv)(v:PV)(h:NvP E v)(hG:NvG E)(e:En)(w:PV)(hw:EnP e w)(hr:j1u e=true)(hg:getR e.nm E.tr=none)(hl:E.es.length<3000):NvG (E.push e)∧∃v',NvP (E.push e) v'∧Pf C1 56 [v,.sl false 19 [w]] [v',iv 0]:=
 ⟨(hG.push hr hl).1,jm3 E v h [e] false [w] ⟨w,[],rfl,hw,rfl⟩ ⟨⟨hr,hg,(hG.push hr hl).2,by omega,(hG.push hr hl).1.ok⟩,trivial⟩ (by simp)⟩
theorem jcL(E:Nv)(v:PV)(h:NvP E v):Pf C1 74 [v] [iv E.es.length]:=by
 obtain⟨b,z,xs,rfl,hz,hx,hok⟩:=h;have hl:=hx.len;refine j00 Tryz.func74 rfl rfl rfl ?_;repeat'(first|refine gU ?_|apply gE<;>intro h|apply gM<;>intro h|apply gK)<;>conv=>whnf
 rw[←hl]
theorem jm5(E:Nv)(v:PV)(h:NvP E v)(ns:List (List UInt8))(b:Bool)(z:Nat)(hz:z=1∨ns=[])(hbd:ns.length≤1000000):Pf C1 28 [v,.sl b z (svs ns)] [bv (ns.all fun s=>(getR s E.tr).isSome)]:=by
 obtain⟨b0,z0,xs,rfl,-⟩:=h;have hlen:(svs ns).length=ns.length:=by simp
 have hz':z=1∨svs ns=[]:=j7G hz;refine j00 Tryz.func28 rfl rfl rfl ?_;repeat'(first|refine gU ?_|apply gE<;>intro h|apply gM<;>intro h|apply gK)<;>conv=>whnf
 refine j03 (G:=Nat) (fun i=>[(11,iv i)]) (fun _=>_) (fun i=>i≤ns.length∧((ns.drop i).all fun s=>(getR s E.tr).isSome)=ns.all fun s=>(getR s E.tr).isSome) (fun i=>ns.length-i) 0 ⟨by omega,rfl⟩ rfl rfl ?_
 rintro i ⟨hi,hall⟩;dsimp only at hi hall⊢;repeat'(first|refine gU ?_|apply gE<;>intro h|apply gM<;>intro h|apply gK)<;>conv=>whnf
 ·have hi':i<ns.length:=by omega
  obtain⟨s,hs⟩:∃s,ns[i]?=some s:=⟨_,List.getElem?_eq_getElem hi'⟩;have hv:=jds hs;have hG:=jh9 s E.tr;rw[drop_at hs,List.all_cons] at hall;cases hg:getR s E.tr with
  |none=>
   rw[hg] at hG hall;repeat'(first|refine gU ?_|apply gE<;>intro h|apply gM<;>intro h|refine VIdx.mk _ hv ?_|refine gZ hz' ?_|refine gX hG ?_|apply gK)<;>conv=>whnf
   rw[←hall];rfl
  |some q=>
   rw[hg] at hG hall;repeat'(first|refine gU ?_|apply gE<;>intro h|apply gM<;>intro h|refine VIdx.mk _ hv ?_|refine gZ hz' ?_|refine gX hG ?_|apply gK)<;>conv=>whnf
   exact VAgain.mk _ rfl _ (j0a rfl rfl rfl) ⟨i+1,⟨hi',by simpa using hall⟩,by omega,rfl⟩
 ·rw[List.drop_of_length_le (by omega)] at hall
  rw[←hall];rfl
theorem jri(h:NvOk E)(s:List UInt8):0≤htF E s∧htF E s≤1048576:=by
 unfold htF j0E;cases hg:getR s E.tr with
 |none=>simp[enz]
 |some i=>
  dsimp only;cases he:E.es[i.toNat]? with
  |none=>simp[enz]
  |some e=>
   have:=h.right e (List.mem_of_getElem? he);simp only[Option.getD_some];unfold j1u j3j at this;unfold j4f job at this
   grind
theorem jcT{E:Nv}(h:NvOk E):∀(l:List (List UInt8)) (n:Int),0≤n∧n≤1048576→0≤j5u E l n∧j5u E l n≤1048576
 |[],_,hn=>hn
 |s::r,n,hn=>by
  have:=jri h s;rw[j5u];refine jcT h r _ ?_;split<;>omega
theorem jct(E:Nv)(v:PV)(h:NvP E v)(t:Tm)(w:PV)(ht:TmP t w):Pf C1 73 [v,w] [iv (j3T E t)]:=by
 have hok:NvOk E:=by
  obtain⟨_,_,_,_,_,_,hok⟩:=h;exact hok
 have hc:=jk7 t w ht;have hl:=jh8 t;obtain⟨b1,z1,he,hz1⟩:=jkH (j4W t);rw[he] at hc;unfold j3T;generalize j4W t=ns at *;have hent:=fun s=>j6b E v h s
 obtain⟨b0,z0,xs,rfl,-⟩:=h;have hlen:(svs ns).length=ns.length:=by simp
 have hz':z1=1∨svs ns=[]:=j7G hz1;cases ht.c;refine j00 Tryz.func73 rfl rfl rfl ?_;repeat'(first|refine gU ?_|apply gE<;>intro h|apply gM<;>intro h|refine gX hc ?_|apply gK)<;>conv=>whnf
 refine j03 (G:=Nat×Int) (fun g=>[(13,iv g.1),(5,iv g.2)]) (fun _=>_) (fun g=>g.1≤ns.length∧(0≤g.2∧g.2≤1048576)∧j5u E (ns.drop g.1) g.2=j5u E ns 0) (fun g=>ns.length-g.1) (0,0) ⟨by omega,by dsimp only;omega,rfl⟩ rfl rfl ?_
 rintro⟨i,n⟩ ⟨hi,hn,hall⟩;dsimp only at hi hn hall⊢;repeat'(first|refine gU ?_|apply gE<;>intro h|apply gM<;>intro h|apply gK)<;>conv=>whnf
 ·have hi':i<ns.length:=by omega
  obtain⟨s,hs⟩:∃s,ns[i]?=some s:=⟨_,List.getElem?_eq_getElem hi'⟩;have hv:=jds hs;have hb:=jri hok s;rw[drop_at hs,j5u] at hall;obtain⟨w,hw,hG⟩:=hent s;unfold htF at hall hb;generalize(j0E E s).getD enz=e at *;generalize(j0E E s).isSome=q at *;obtain⟨a1,a2,a3,a4,a5,a6,a7,a8,a9,a10,a11,a12,a13,a14,a15,a16,a17,a18,a19,a20,rfl,-⟩:=hw;repeat'(first|refine gU ?_|apply gE<;>intro h|apply gM<;>intro h|refine VIdx.mk _ hv ?_|refine gZ hz' ?_|refine j01 hG fun _=>?_|refine gX hG ?_|apply gK)<;>conv=>whnf
  exact VAgain.mk _ rfl _ (j0a rfl rfl rfl) ⟨(i+1,if e.ht>n then e.ht else n),⟨hi',by dsimp only;split<;>omega,hall⟩,by dsimp only;omega,rfl⟩
 ·rw[List.drop_of_length_le (by omega),j5u] at hall
  rw[←hall]
open Go Go.Am Go.Gw
def jn5(o:Except Int En):List PV:=match o with
 | .ok e=>[encE e,iv 0]
 | .error e=>[.ag zEn,iv e]
theorem jfQ{k p fx ht a1 a2 b1 b2:Int}{nm a3 b3:List UInt8}{ty vl:Tm}{cs:List (List UInt8×Tm)}{a4 a7 b4 b7:Bool}{a5 a8 b5 b8:Nat}{a6 a9 b6 b9:List PV}(hty:TmP ty (.ag [iv a1,iv a2,sv a3,.sl a4 a5 a6,.sl a7 a8 a9]))(hvl:TmP vl (.ag [iv b1,iv b2,sv b3,.sl b4 b5 b6,.sl b7 b8 b9]))(hnm:nm.length≤140737488355328):
  EnP (enOf ⟨k,p,nm,ty,vl,fx,cs⟩ ht) (.ag [iv k,iv p,sv nm,iv a1,iv a2,sv a3,.sl a4 a5 a6,.sl a7 a8 a9,iv b1,iv b2,sv b3,.sl b4 b5 b6,.sl b7 b8 b9,iv ht,sv [],iv 0,iv 0,iv 0,.sl true 0 []]):=
 ⟨_,_,_,_,_,_,_,_,_,_,_,_,_,_,_,_,_,_,_,_,rfl,hty,hvl,.inr ⟨rfl,rfl,rfl⟩,hnm,by simp[enOf],by simp[enOf],by simp[enOf]⟩
theorem je0(d:Dc)(v:PV)(h:DcP d v)(ht:Int):Pf C1 78 [v,iv ht] (jn5 (entryD d ht)):=by
 have hF:=jcs d v h;have hs:=j6W ht 1 1048576;unfold entryD plain8;obtain⟨k,p,nm,ty,vl,fx,cs,a1,a2,a3,a4,a5,a6,a7,a8,a9,b1,b2,b3,b4,b5,b6,b7,b8,b9,cb,cz,cx,hty,hvl,hz,hxs,hlen,hnm,hk,hp,hfx⟩:=h;have hC:=fun q=>jau _ _ (jfQ (k:=k) (p:=p) (fx:=fx) (cs:=cs) (ht:=q) hty hvl hnm)
 have hE:=fun q=>j4z (jfQ (k:=k) (p:=p) (fx:=fx) (cs:=cs) (ht:=q) hty hvl hnm)
 dsimp only;generalize j3R ⟨k,p,nm,ty,vl,fx,cs⟩=q at *;cases q with
 |false=>
  have hC:True:=trivial;have hs:True:=trivial;refine j00 Tryz.func78 rfl rfl rfl ?_;repeat'(first|refine gU ?_|apply gE<;>intro h|apply gM<;>intro h|refine gX hF ?_|refine gX hs ?_|refine j01 hC fun _=>?_|refine gX hC ?_|apply gK)<;>conv=>whnf
  all_goals first|rfl|(exfalso;omega)
 |true=>
  by_cases c5:k=5
  ·subst c5;have hC:True:=trivial;have hs:True:=trivial;refine j00 Tryz.func78 rfl rfl rfl ?_;repeat'(first|refine gU ?_|apply gE<;>intro h|apply gM<;>intro h|refine gX hF ?_|refine gX hs ?_|refine j01 hC fun _=>?_|refine gX hC ?_|apply gK)<;>conv=>whnf
   all_goals first|rfl|(exfalso;omega)
  have e5:(true && !decide (k=5))=true:=by simp[c5]
  rw[e5]
  by_cases c2:k=2
  ·by_cases c3:1≤ht∧ht≤1048576
   ·have e3:j4f ht 1 1048576=true:=by simp[j4f,c3]
    rw[e3] at hs;rw[if_pos c2,if_pos c3];have hC:=hC ht;obtain⟨tk,tn,ts,tb,tz',txs,tc,ty',tys,vk,vn,vs,vb,vz,vxs,vc,vy,vys,b',z',hE⟩:=hE ht;simp only[jn5];rw[hE] at hC⊢;refine j00 Tryz.func78 rfl rfl rfl ?_;repeat'(first|refine gU ?_|apply gE<;>intro h|apply gM<;>intro h|refine gX hF ?_|refine gX hs ?_|refine j01 hC fun _=>?_|refine gX hC ?_|apply gK)<;>conv=>whnf
    all_goals first|rfl|(exfalso;omega)
   ·have e3:j4f ht 1 1048576=false:=by
     cases e:j4f ht 1 1048576 with
     |false=>rfl
     |true=>
      simp[j4f] at e;exact absurd e c3
    rw[e3] at hs;rw[if_pos c2,if_neg c3];have hC:True:=trivial;refine j00 Tryz.func78 rfl rfl rfl ?_;repeat'(first|refine gU ?_|apply gE<;>intro h|apply gM<;>intro h|refine gX hF ?_|refine gX hs ?_|refine j01 hC fun _=>?_|refine gX hC ?_|apply gK)<;>conv=>whnf
    all_goals first|rfl|(exfalso;omega)
  ·rw[if_neg c2];have hC:=hC 0;obtain⟨tk,tn,ts,tb,tz',txs,tc,ty',tys,vk,vn,vs,vb,vz,vxs,vc,vy,vys,b',z',hE⟩:=hE 0;simp only[jn5];rw[hE] at hC⊢;refine j00 Tryz.func78 rfl rfl rfl ?_;repeat'(first|refine gU ?_|apply gE<;>intro h|apply gM<;>intro h|refine gX hF ?_|refine gX hs ?_|refine j01 hC fun _=>?_|refine gX hC ?_|apply gK)<;>conv=>whnf
   all_goals first|rfl|(exfalso;omega)
section
variable{E:Nv}{cs:List PV}{tot:Int}{n:Nat}
theorem jnJ(hE:NvP E (.cp cs))(ht:tot≤1048576)(d:Dc)(v:PV)(h:DcP d v)(l:Int)(r:Except Int Unit)(l':Int)(h0:0≤l)(h1:l≤tot)(hx:j2H E n d l=some (r,l')):IrU 77 [xI,v] cs tot l r l':=by
 obtain⟨k,p,nm,ty,vl,fx,dcs,a1,a2,a3,a4,a5,a6,a7,a8,a9,b1,b2,b3,b4,b5,b6,b7,b8,b9,cb,cz,cx,hty,hvl,hz,hxs,hlen,hnm,hk,hp,hfx⟩:=h;unfold j2H at hx;dsimp only at hx;rcases j09 hx with⟨e,q1,rfl⟩|⟨x,la,q1,q2⟩
 ·obtain⟨-,he,hf⟩:=jgc hE ht [] _ jdZ ty _ hty l _ l' h0 h1 q1;have he:=he _ rfl;simp only[errL] at hf;refine⟨he,?_⟩;refine j00 Tryz.func77 rfl rfl rfl ?_;repeat'(first|refine gU ?_|apply gE<;>intro h|apply gM<;>intro h|refine gW hf ?_|apply gK)<;>conv=>whnf
  all_goals exact gJ
 obtain⟨hw,-,hf⟩:=jgc hE ht [] _ jdZ ty _ hty l _ la h0 h1 q1;have hw:=hw x rfl;simp only[errL] at hf;have hZ:=jdE x _ hw;have hla:=(j9g (E:=E) n [] ty).dn l _ la h0 q1;obtain⟨k4,n4,b4',z4,x4,he9⟩:=j0A x;rw[he9] at hf hZ;rcases j09 q2 with⟨e,q3,rfl⟩|⟨u0,lb,q3,q4⟩
 ·obtain⟨rfl,d2⟩:=j1q q3;rcases d2 with⟨-,d2⟩|⟨d1,d2⟩
  ·cases d2
  cases d2;obtain⟨c3,cz0⟩:k=3∧jc7 x=false:=by simpa using d1
  rw[cz0] at hZ;refine⟨by omega,?_⟩
  refine j00 Tryz.func77 rfl rfl rfl ?_;repeat'(first|refine gU ?_|apply gE<;>intro h|apply gM<;>intro h|refine gW hf ?_|refine gX hZ ?_|apply gK)<;>conv=>whnf
  all_goals exact gJ
 obtain⟨rfl,d2⟩:=j1q q3;rcases d2 with⟨d1,-⟩|⟨-,d2⟩
 rotate_left
 ·cases d2
 have hne:k=3→jc7 x=true:=fun c3=>by simpa[c3] using d1
 by_cases c1:k=1
 ·subst c1;cases q4;show Fr _ _ _ _ _ (.ret [iv 0]) _
  have hZ:True:=trivial;refine j00 Tryz.func77 rfl rfl rfl ?_;repeat'(first|refine gU ?_|apply gE<;>intro h|apply gM<;>intro h|refine gW hf ?_|apply gK)<;>conv=>whnf
  all_goals exact gJ
 ·rw[decide_eq_false c1] at q4;dsimp only at q4;have hg:=jkY hE ht [] _ jdZ vl _ hvl ty _ hty lb r l' (by omega) (by omega) q4
  by_cases c3:k=3
  ·rw[hne c3] at hZ;cases r with
   |error e=>
    obtain⟨he,hg⟩:=hg;refine⟨he,?_⟩;refine j00 Tryz.func77 rfl rfl rfl ?_;repeat'(first|refine gU ?_|apply gE<;>intro h|apply gM<;>intro h|refine gW hf ?_|refine gX hZ ?_|refine gW hg ?_|apply gK)<;>conv=>whnf
    all_goals exact gJ
   |ok u=>
    have hg:Fr _ _ _ _ _ (.ret [iv 0]) _:=hg;show Fr _ _ _ _ _ (.ret [iv 0]) _
    refine j00 Tryz.func77 rfl rfl rfl ?_;repeat'(first|refine gU ?_|apply gE<;>intro h|apply gM<;>intro h|refine gW hf ?_|refine gX hZ ?_|refine gW hg ?_|apply gK)<;>conv=>whnf
    all_goals exact gJ
  ·have hZ:True:=trivial;cases r with
   |error e=>
    obtain⟨he,hg⟩:=hg;refine⟨he,?_⟩;refine j00 Tryz.func77 rfl rfl rfl ?_;repeat'(first|refine gU ?_|apply gE<;>intro h|apply gM<;>intro h|refine gW hf ?_|refine gW hg ?_|apply gK)<;>conv=>whnf
    all_goals exact gJ
   |ok u=>
    have hg:Fr _ _ _ _ _ (.ret [iv 0]) _:=hg;show Fr _ _ _ _ _ (.ret [iv 0]) _
    refine j00 Tryz.func77 rfl rfl rfl ?_;repeat'(first|refine gU ?_|apply gE<;>intro h|apply gM<;>intro h|refine gW hf ?_|refine gW hg ?_|apply gK)<;>conv=>whnf
    all_goals exact gJ
def plV(r:Except Int En)(u:Int):List PV:=match r with
 | .ok e=>[encE e,iv u,iv 0]
 | .error e=>[.ag zEn,iv u,iv e]
theorem jay(hE:NvP E (.cp cs))(h0:0≤tot)(ht:tot≤1048576)(d:Dc)(v:PV)(h:DcP d v)(r:Except Int En)(u:Int)(hx:j1o E n d tot=some (r,u)):Pf C1 24 [.cp cs,v,iv tot] (plV r u):=by
 have hw:=jiy cs tot h0 ht;have hF:=jcs d v h;have hH:=jm5 E _ hE [d.nm] true 1 (.inl rfl) (by simp)
 have hD:=fun q=>je0 d v h q
 have hJ:=fun r' l' hx=>jnJ (n:=n) hE ht d v h tot r' l' h0 (Int.le_refl _) hx
 have hht:=fun t w hw=>jct E _ hE t w hw
 unfold j1o plain8 at hx;obtain⟨k,p,nm,ty,vl,fx,dcs,a1,a2,a3,a4,a5,a6,a7,a8,a9,b1,b2,b3,b4,b5,b6,b7,b8,b9,cb,cz,cx,hty,hvl,hz,hxs,hlen,hnm,hk,hp,hfx⟩:=h;have hht:=hht vl _ hvl;dsimp only at hx hH;have hN:=jgf cs tot tot;generalize j3R ⟨k,p,nm,ty,vl,fx,dcs⟩=q at *;cases q with
 |false=>
  cases hx;show Pf _ _ _ [.ag zEn,iv 0,iv 10]
  have hH:True:=trivial;refine j00 Tryz.func24 rfl rfl rfl ?_;repeat'(first|refine gU ?_|apply gE<;>intro h|apply gM<;>intro h|refine j7a hw rfl rfl (j1Y rfl ?_)|refine gX hF ?_|refine gX hH ?_|apply gO|apply gK)<;>conv=>whnf
  all_goals first|rfl|(exfalso;omega)|contradiction
 |true=>
  by_cases c5:k=5
  ·subst c5;cases hx;show Pf _ _ _ [.ag zEn,iv 0,iv 10]
   have hH:True:=trivial;refine j00 Tryz.func24 rfl rfl rfl ?_;repeat'(first|refine gU ?_|apply gE<;>intro h|apply gM<;>intro h|refine j7a hw rfl rfl (j1Y rfl ?_)|refine gX hF ?_|refine gX hH ?_|apply gO|apply gK)<;>conv=>whnf
   all_goals first|rfl|(exfalso;omega)|contradiction
  have e5:(true && !decide (k=5))=true:=by simp[c5]
  rw[e5] at hx;dsimp only at hx;cases hg:getR nm E.tr with
  |some i=>
   rw[hg] at hx;cases hx;have hH:Pf C1 28 [.cp cs,.sl true 1 [sv nm]] [bv true]:=by
    have e:([nm].all fun s=>(getR s E.tr).isSome)=true:=by simp[hg]
    rw[e] at hH;exact hH
   show Pf _ _ _ [.ag zEn,iv 0,iv 14]
   refine j00 Tryz.func24 rfl rfl rfl ?_;repeat'(first|refine gU ?_|apply gE<;>intro h|apply gM<;>intro h|refine j7a hw rfl rfl (j1Y rfl ?_)|refine gX hF ?_|refine gX hH ?_|apply gO|apply gK)<;>conv=>whnf
   all_goals first|rfl|(exfalso;omega)|contradiction
  |none=>
   have hH:Pf C1 28 [.cp cs,.sl true 1 [sv nm]] [bv false]:=by
    have e:([nm].all fun s=>(getR s E.tr).isSome)=false:=by simp[hg]
    rw[e] at hH;exact hH
   rw[hg] at hx;dsimp only at hx;cases hj:j2H E n ⟨k,p,nm,ty,vl,fx,dcs⟩ tot with
   |none=>rw[hj] at hx;cases hx
   |some y=>
    obtain⟨y,l⟩:=y;have hJ:=hJ y l hj;have hU:=jqS cs tot l;rw[hj] at hx;cases y with
    |error e=>
     cases hx;obtain⟨he,hJ⟩:=hJ;show Pf _ _ _ [.ag zEn,iv (tot-l),iv e]
     refine j00 Tryz.func24 rfl rfl rfl ?_;repeat'(first|refine gU ?_|apply gE<;>intro h|apply gM<;>intro h|refine j7a hw rfl rfl (j1Y rfl ?_)|refine gX hF ?_|refine gX hH ?_|refine j1w (i:=2) hN rfl rfl rfl rfl rfl rfl rfl ?_|refine j1w (i:=2) hJ rfl rfl rfl rfl rfl rfl rfl ?_|refine j1w (i:=2) hU rfl rfl rfl rfl rfl rfl rfl ?_|apply gK)<;>conv=>whnf
     all_goals first|rfl|(exfalso;omega)|contradiction
    |ok a=>
     cases hx;have hJ:Fr _ _ _ _ _ (.ret [iv 0]) _:=hJ;have hD:=hD (j3T E vl+1);have hb:=jcT (show NvOk E by obtain⟨_,_,_,_,_,_,hok⟩:=hE;exact hok) (j4W vl) 0 (by omega)
     have hb:0≤j3T E vl∧j3T E vl≤1048576:=hb;generalize j3T E vl=hh at *;cases hq:entryD ⟨k,p,nm,ty,vl,fx,dcs⟩ (hh+1) with
     |error e=>
      rw[hq] at hD;simp only[jn5] at hD;have he:=jaV hq;show Pf _ _ _ [.ag zEn,iv (tot-l),iv e]
      refine j00 Tryz.func24 rfl rfl rfl ?_;repeat'(first|refine gU ?_|apply gE<;>intro h|apply gM<;>intro h|refine j7a hw rfl rfl (j1Y rfl ?_)|refine gX hF ?_|refine gX hH ?_|refine j1w (i:=2) hN rfl rfl rfl rfl rfl rfl rfl ?_|refine j1w (i:=2) hJ rfl rfl rfl rfl rfl rfl rfl ?_|refine j01 hht fun _=>?_|refine j01 hD fun _=>?_|refine gX hht ?_|refine gX hD ?_|refine j1w (i:=2) hU rfl rfl rfl rfl rfl rfl rfl ?_|apply gK)<;>conv=>whnf
      all_goals first|rfl|(exfalso;omega)|contradiction
     |ok en=>
      obtain⟨q,rfl⟩:=jaU hq;obtain⟨tk,tn,ts,tb,tz',txs,tc,ty',tys,vk,vn,vs,vb,vz,vxs,vc,vy,vys,b',z',hE'⟩:=j4z (jfQ (k:=k) (p:=p) (fx:=fx) (cs:=dcs) (ht:=q) hty hvl hnm);rw[hq] at hD;simp only[jn5] at hD;show Pf _ _ _ [encE _,iv (tot-l),iv 0]
      rw[hE'] at hD⊢;refine j00 Tryz.func24 rfl rfl rfl ?_;repeat'(first|refine gU ?_|apply gE<;>intro h|apply gM<;>intro h|refine j7a hw rfl rfl (j1Y rfl ?_)|refine gX hF ?_|refine gX hH ?_|refine j1w (i:=2) hN rfl rfl rfl rfl rfl rfl rfl ?_|refine j1w (i:=2) hJ rfl rfl rfl rfl rfl rfl rfl ?_|refine j01 hht fun _=>?_|refine j01 hD fun _=>?_|refine gX hht ?_|refine gX hD ?_|refine j1w (i:=2) hU rfl rfl rfl rfl rfl rfl rfl ?_|apply gK)<;>conv=>whnf
      all_goals first|rfl|(exfalso;omega)|contradiction
end
open Go Go.Am Go.Gw
theorem jeS(l:List (List UInt8))(b b2:Bool)(z z2:Nat)(hz:z=1∨l=[])(hz2:z2=1∨l=[])(hbd:l.length≤1000000):Pf C1 40 [.sl b z (svs l),.sl b2 z2 (svs l)] [bv true]:=by
 have hlen:(svs l).length=l.length:=by simp
 have hz':z=1∨svs l=[]:=j7G hz;have hz2':z2=1∨svs l=[]:=j7G hz2;have h0:((svs l).length:Int)=(svs l).length:=rfl;refine j00 Tryz.func40 rfl rfl rfl ?_;repeat'(first|refine gU ?_|apply gE<;>intro h|apply gM<;>intro h|apply gK)<;>conv=>whnf
 all_goals first|(exfalso;omega)|skip
 refine j03 (G:=Nat) (fun i=>[(5,iv i)]) (fun _=>_) (fun i=>i≤l.length) (fun i=>l.length-i) 0 (by omega) rfl rfl ?_
 intro i hi;dsimp only at hi⊢;repeat'(first|refine gU ?_|apply gE<;>intro h|apply gM<;>intro h|apply gK)<;>conv=>whnf
 have hi':i<l.length:=by omega
 obtain⟨s,hs⟩:∃s,l[i]?=some s:=⟨_,List.getElem?_eq_getElem hi'⟩;have hv:=jds hs;have hss:(!(s == s))=false:=by simp
 repeat'(first|refine gU ?_|apply gE<;>intro h|apply gM<;>intro h|refine VNat.mk i rfl ?_|refine VIdx.mk _ hv ?_|refine gZ hz' ?_|refine gZ hz2' ?_|refine j4n ?_|apply gK)<;>conv=>whnf
 all_goals first|exact VAgain.mk _ rfl _ (j0a rfl rfl rfl) ⟨i+1,by omega,by omega,rfl⟩|(exfalso;simp_all;done)
theorem EnP.names{v:PV}(h:EnP e v):e.ctors.length≤1000000:=by
 obtain⟨a1,a2,a3,a4,a5,a6,a7,a8,a9,a10,a11,a12,a13,a14,a15,a16,a17,a18,a19,a20,rfl,-,-,-,-,-,h,-⟩:=h;exact h
theorem j7x(d:Dc)(v:PV)(h:DcP d v):∃q,Pf C1 23 [v] [bv q]:=by
 obtain⟨b,-,hb⟩:=jk8 d v h;suffices hh:Finds C1 23 [v] [] fun r _=>∃q:Bool,True∧r=.ret [bv q] by
  obtain⟨q,-,hq⟩:=Finds.out (P:=fun _=>True) (R:=fun q=>.ret [bv q]) hh
  exact⟨q,hq⟩
 obtain⟨k,p,nm,ty,vl,fx,dcs,a1,a2,a3,a4,a5,a6,a7,a8,a9,b1,b2,b3,b4,b5,b6,b7,b8,b9,cb,cz,cx,hty,hvl,hz,hxs,hlen,hnm,hk,hp,hfx⟩:=h;have h1:=j3q ty _ hty 80 (by omega) (by omega)
 have h2:=j3q vl _ hvl 80 (by omega) (by omega)
 refine j00 Tryz.func23 rfl rfl rfl ?_;cases b with
 |true=>
  repeat'(first|refine gU ?_|apply gE<;>intro h|apply gM<;>intro h|refine gX hb ?_|apply gK)<;>conv=>whnf
  all_goals exact⟨_,trivial,rfl⟩
 |false=>
  repeat'(first|refine gU ?_|apply gE<;>intro h|apply gM<;>intro h|refine gX hb ?_|refine gX h1 ?_|refine gX h2 ?_|apply gK)<;>conv=>whnf
  all_goals exact⟨_,trivial,rfl⟩
section
variable{E:Nv}{cs:List PV}{tot:Int}{n:Nat}
theorem jbx{d:Dc}{e:En}{u:Int}(hx:j1o E n d tot=some (.ok e,u)):j1u e=true∧e.nm=d.nm∧getR e.nm E.tr=none:=by
 unfold j1o at hx;split at hx
 ·cases hx
 split at hx
 ·cases hx
 rename_i hg;split at hx
 ·cases hx
 ·cases hx
 ·simp only[Option.some.injEq,Prod.mk.injEq] at hx;obtain⟨hq,-⟩:=hx;obtain⟨q,rfl⟩:=jaU hq;exact⟨jfV hq,rfl,hg⟩
def AddR(E:Nv)(f:FuncId)(args:List PV)(r:Except Int En)(u:Int):Prop:=match r with
 | .ok e=>NvG (E.push e)∧∃cs',NvP (E.push e) (.cp cs')∧Pf C1 f args [.cp cs',iv u,iv 0]
 | .error e=>Pf C1 f args [nilP,iv u,iv e]
theorem j1k(hE:NvP E (.cp cs))(hG:NvG E)(hl:E.es.length<3000)(h0:0≤tot)(ht:tot≤1048576)(d:Dc)(v:PV)(h:DcP d v)(r:Except Int En)(u:Int)(hz:∀e,r=.error e→¬e=0)(hx:j1o E n d tot=some (r,u)):AddR E 27 [.cp cs,v,iv tot] r u:=by
 have hP:=jay hE h0 ht d v h r u hx;obtain⟨k,p,nm,ty,vl,fx,dcs,a1,a2,a3,a4,a5,a6,a7,a8,a9,b1,b2,b3,b4,b5,b6,b7,b8,b9,cb,cz,cx,hty,hvl,hz',hxs,hlen,hnm,hk,hp,hfx⟩:=h;cases r with
 |error e=>
  have he:=hz e rfl;simp only[plV] at hP;show Pf _ _ _ _
  refine j00 Tryz.func27 rfl rfl rfl ?_;repeat'(first|refine gU ?_|apply gE<;>intro h|apply gM<;>intro h|refine gX hP ?_|apply gK)<;>conv=>whnf
  all_goals first|rfl|contradiction
 |ok e=>
  obtain⟨hr,hn,hg⟩:=jbx hx;have hw:EnP e (encE e):=by
   unfold j1o at hx;split at hx
   ·cases hx
   split at hx
   ·cases hx
   split at hx
   ·cases hx
   ·cases hx
   ·simp only[Option.some.injEq,Prod.mk.injEq] at hx;obtain⟨q,rfl⟩:=jaU hx.1;exact j5Z (jfQ (ht:=q) hty hvl hnm)
  obtain⟨g1,v',g2,hA⟩:=jpc E _ hE hG e _ hw hr hg hl;have g2':=g2;obtain⟨b',z',xs',rfl,-⟩:=g2';refine⟨g1,_,g2,?_⟩;obtain⟨tk,tn,ts,tb,tz',txs,tc,ty',tys,vk,vn,vs,vb,vz,vxs,vc,vy,vys,b9',z9,hE'⟩:=j4z hw;simp only[plV] at hP;rw[hE'] at hP hA;generalize j8D (E.push e).tr=tp at *;refine j00 Tryz.func27 rfl rfl rfl ?_;repeat'(first|refine gU ?_|apply gE<;>intro h|apply gM<;>intro h|refine gX hP ?_|refine j6Z rfl rfl hA rfl ?_|apply gK)<;>conv=>whnf
  all_goals first|rfl|contradiction
noncomputable def allF(n:Nat)(tot:Int):Nv→List Dc→Nat→Int→Option (Option Nv×Int×Int)
 |E,[],_,s=>some (some E,s,0)
 |E,d::r,i,s=>match j1o E n d tot with
  |none=>none
  |some (.error e,_)=>some (none,i,e)
  |some (.ok e,u)=>allF n tot (E.push e) r (i+1) (s+u)
def AllR(f:FuncId)(args:List PV)(r:Option Nv×Int×Int):Prop:=match r with
 |(some E,s,e)=>NvG E∧∃cs',NvP E (.cp cs')∧Pf C1 f args [.cp cs',iv s,iv e]
 |(none,s,e)=>Pf C1 f args [nilP,iv s,iv e]
inductive DcsP:List Dc→List PV→Prop where
 |nil:DcsP [] []
 |cons {d:Dc}{v:PV}{ds:List Dc}{vs:List PV}:DcP d v→DcsP ds vs→DcsP (d::ds) (v::vs)
theorem DcsP.len{ds:List Dc}{vs:List PV}(h:DcsP ds vs):vs.length=ds.length:=by
 induction h with
 |nil=>rfl
 |cons _ _ ih=>simp[ih]
theorem DcsP.at{ds:List Dc}{vs:List PV}(h:DcsP ds vs):∀{i:Nat}{d:Dc},ds[i]?=some d→∃v,vs[i]?=some v∧DcP d v:=by
 induction h with
 |nil=>intro i d hi;simp at hi
 |cons h1 _ ih=>
  intro i d hi;cases i with
  |zero=>simp at hi;subst hi;exact⟨_,rfl,h1⟩
  |succ i=>simpa using ih (by simpa using hi)
end
open Go Go.Am Go.Gw
def nTwo:List UInt8:=[116,119,111]
theorem jlA:isTm (cq nTwo) ((ev C1 60).call 29 [sv [116,119,111]] [])=true:=by kernel_rfl
theorem jdh:isTm (tNat) ((ev C1 60).call 29 [sv [110,97,116]] [])=true:=by kernel_rfl
theorem jlz:isTm (ap (ap (cq nAdd) (cq [107])) (cq [107])) ((ev C1 60).call 29 [sv [40,97,100,100,32,107,32,107,41]] [])=true:=by kernel_rfl
theorem jqA:isTm (cq [107]) ((ev C1 60).call 29 [sv [107]] [])=true:=by kernel_rfl
theorem jqB:isTm (cq [112]) ((ev C1 60).call 29 [sv [112]] [])=true:=by kernel_rfl
theorem jqz:isTm (cq [104]) ((ev C1 60).call 29 [sv [104]] [])=true:=by kernel_rfl
theorem j4y(k:Int)(hk:i64 k)(nm ts vs:List UInt8)(ty vl:Tm)(h1:∃v,TmP ty v∧Pf C1 29 [sv ts] [v])(h2:∃v,TmP vl v∧Pf C1 29 [sv vs] [v])(hnm:nm.length≤1000):∃w,DcP ⟨k,0,nm,ty,vl,0,[]⟩ w∧Pf C1 72 [iv k,sv nm,sv ts,sv vs] [w]:=by
 obtain⟨v,hv,r1⟩:=h1;obtain⟨w,hw,r2⟩:=h2;have hv':=hv;have hw':=hw;cases hv'.c;cases hw'.c;refine⟨_,.mk k 0 nm ty vl 0 [] _ _ _ _ _ _ _ _ _ _ _ _ _ _ _ _ _ _ true 0 [] hv hw (.inr rfl) rfl (by simp) (by omega) hk (by unfold i64;omega) (by unfold i64;omega),?_⟩
 refine j00 Tryz.func72 rfl rfl rfl ?_;repeat'(first|refine gU ?_|apply gE<;>intro h|apply gM<;>intro h|refine gX r1 ?_|refine gX r2 ?_|refine j01 r1 fun _=>?_|refine j01 r2 fun _=>?_|apply gK)<;>conv=>whnf
 all_goals rfl
theorem nv14_G:NvG nv14:=NvG.adds juh (jdJ jrc) (by decide)
theorem jbd:∃cs,NvP nv14 (.cp cs)∧Pf C1 25 [] [.cp cs]:=by
 obtain⟨ws,hws,hl⟩:=jnU;obtain⟨v,hv,ha⟩:=jm3 nv0 _ jui jhV false ws hws (jdJ jrc) (by decide)
 have hv':=hv;obtain⟨b,z,xs,rfl,-⟩:=hv';refine⟨_,hv,?_⟩;have he:=jkL;generalize j8D (jfl nv0 jhV).tr=tp at *;refine j00 Tryz.func25 rfl rfl rfl ?_;repeat'(first|refine gU ?_|apply gE<;>intro h|apply gM<;>intro h|refine gX he ?_|refine gX hl ?_|refine gX ha ?_|apply gK)<;>conv=>whnf
 all_goals rfl
section
variable{E:Nv}{cs:List PV}{tot:Int}{n:Nat}
theorem jm4(hE:NvP E (.cp cs))(hG:NvG E)(h0:0≤tot)(ht:tot≤1048576)(ds:List Dc)(b:Bool)(z:Nat)(vs:List PV)(hz:z=15∨vs=[])(hds:DcsP ds vs)(hl:E.es.length+ds.length<3000)(r:Option Nv×Int×Int)(hx:allF n tot E ds 0 0=some r):AllR 39 [.cp cs,iv tot,.sl b z vs] r:=by
 have hlen:=hds.len;suffices key:Finds C1 39 [.cp cs,iv tot,.sl b z vs] [] fun q _=>match r with
  |(some E',s,e)=>∃cs',(NvG E'∧NvP E' (.cp cs'))∧q=.ret [.cp cs',iv s,iv e]
  |(none,s,e)=>q=.ret [nilP,iv s,iv e] by
  obtain⟨E',s,e⟩:=r;cases E' with
  |none=>exact key
  |some E'=>
   obtain⟨cs',⟨k1,k2⟩,k3⟩:=Finds.out (P:=fun cs'=>NvG E'∧NvP E' (.cp cs')) (R:=fun cs'=>.ret [.cp cs',iv s,iv e]) key
   exact⟨k1,cs',k2,k3⟩
 refine j00 Tryz.func39 rfl rfl rfl ?_;repeat'(first|refine gU ?_|apply gE<;>intro h|apply gM<;>intro h|apply gK)<;>conv=>whnf
 refine j03 (G:=Nat×Nv×List PV×Int) (fun g=>[(0,.cp g.2.2.1),(9,iv g.2.2.2),(17,iv g.1)]) (fun _=>_) (fun g=>g.1≤ds.length∧NvG g.2.1∧NvP g.2.1 (.cp g.2.2.1)∧g.2.1.es.length+(ds.length-g.1)<3000∧(0≤g.2.2.2∧g.2.2.2≤1048576*g.1)∧allF n tot g.2.1 (ds.drop g.1) g.1 g.2.2.2=some r) (fun g=>ds.length-g.1) (0,E,cs,0) ⟨by omega,hG,hE,by dsimp only;omega,by dsimp only;omega,hx⟩ rfl rfl ?_
 rintro⟨i,Ei,ci,s⟩ ⟨hi,eG,eE,el,es_,hall⟩;dsimp only at hi eG eE el es_ hall⊢;repeat'(first|refine gU ?_|apply gE<;>intro h|apply gM<;>intro h|apply gK)<;>conv=>whnf
 ·have hi':i<ds.length:=by omega
  obtain⟨d,hd⟩:∃d,ds[i]?=some d:=⟨_,List.getElem?_eq_getElem hi'⟩;obtain⟨v,hv,hP⟩:=hds.at hd;rw[drop_at hd] at hall;unfold allF at hall;cases hp:j1o Ei n d tot with
  |none=>rw[hp] at hall;cases hall
  |some y=>
   obtain⟨y,u⟩:=y;rw[hp] at hall;obtain⟨u0,u1,ue⟩:=jbv h0 hp;have hA:=j1k eE eG (by omega) h0 ht d v hP y u ue hp
   obtain⟨k,p,nm,ty,vl,fx,dcs,a1,a2,a3,a4,a5,a6,a7,a8,a9,b1,b2,b3,b4,b5,b6,b7,b8,b9,cb,cz,cx,-⟩:=hP;cases y with
   |error e=>
    have he:=ue e rfl;cases hall;have hA:Pf _ _ _ _:=hA;repeat'(first|refine gU ?_|apply gE<;>intro h|apply gM<;>intro h|refine VIdx.mk _ hv ?_|refine gZ hz ?_|refine gX hA ?_|apply gK)<;>conv=>whnf
    all_goals first|rfl|contradiction
   |ok e=>
    obtain⟨kG,c2,kE,hA⟩:=hA;have hle:(Ei.push e).es.length=Ei.es.length+1:=by simp[Nv.push]
    repeat'(first|refine gU ?_|apply gE<;>intro h|apply gM<;>intro h|refine VIdx.mk _ hv ?_|refine gZ hz ?_|refine gX hA ?_|apply gK)<;>conv=>whnf
    all_goals first|contradiction|exact VAgain.mk _ rfl _ (j0a rfl rfl rfl) ⟨(i+1,Ei.push e,c2,s+u),⟨hi',kG,kE,by dsimp only;omega,by dsimp only;omega,hall⟩,by dsimp only;omega,rfl⟩
 ·have hl:i=ds.length:=by omega
  subst hl;rw[List.drop_length] at hall;cases hall;exact⟨ci,⟨eG,eE⟩,rfl⟩
end
end Go.Proofs.YtbnodhcijeaceaaGreatDoor

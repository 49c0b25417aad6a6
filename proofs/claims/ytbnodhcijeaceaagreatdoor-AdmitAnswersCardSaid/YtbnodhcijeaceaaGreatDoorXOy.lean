/- The law of names, walked. -/
import Derived.Test.YtbnodhcijeaceaaGreatDoorXOm
set_option linter.all false
set_option maxHeartbeats 4000000
set_option maxRecDepth 100000
namespace Go.Proofs.YtbnodhcijeaceaaGreatDoor
open Go Go.Am Go.Gw
section
variable{E:Nv}{n:Nat}{s:List UInt8}{l l':Int}
end
def jvp:List UInt8:=[102,114,101,115,104]
open Go Go.Am Go.Gw
section
variable{E:Nv}{cs:List PV}{tot:Int}{n:Nat}
def jil(hE:NvP E (.cp cs))(ht:tot≤1048576)(d:Dc)(v:PV)(h:DcP d v)(l:Int)(r:Except Int Unit)(l':Int)(h0:0≤l)(h1:l≤tot)(hx:j3v E n d l=some (r,l')):IrU 36 [xI,v] cs tot l r l':=by
 obtain⟨k,p,nm,ty,vl,fx,dcs,a1,a2,a3,a4,a5,a6,a7,a8,a9,b1,b2,b3,b4,b5,b6,b7,b8,b9,cb,cz,cx,hA,qA,hz,hB,hlen,qB,hk,hp,wB⟩:=h;unfold j3v at hx;dsimp only at hx;rcases j0b hx with⟨e,q1,rfl⟩|⟨x,la,q1,q2⟩
 ·obtain⟨-,he,hf⟩:=j8I hE ht [] _ j7o ty _ hA l _ l' h0 h1 q1;have he:=he _ rfl;simp only[errL] at hf;refine⟨he,?_⟩;refine gR Tryz.func36 ?_;repeat'(first|refine gU ?_|apply gE<;>intro h|apply gM<;>intro h|refine gW hf ?_|apply gK)<;>conv=>whnf
  all_goals exact gJ
 obtain⟨hw,-,hf⟩:=j8I hE ht [] _ j7o ty _ hA l _ la h0 h1 q1;have hw:=hw x rfl;simp only[errL] at hf;have hZ:=jaA x _ hw;have gB:=(j7p (E:=E) n [] ty).dn l _ la h0 q1;obtain⟨k4,n4,b4',z4,x4,wA⟩:=j0t x;rw[wA] at hf hZ;rcases j0b q2 with⟨e,q3,rfl⟩|⟨u0,lb,q3,q4⟩
 ·obtain⟨rfl,d2⟩:=j1k q3;rcases d2 with⟨-,d2⟩|⟨d1,d2⟩
  ·cases d2
  cases d2;obtain⟨c3,cz0⟩:k=3∧ja7 x=false:=by simpa using d1
  rw[cz0] at hZ;refine⟨by omega,?_⟩
  refine gR Tryz.func36 ?_;repeat'(first|refine gU ?_|apply gE<;>intro h|apply gM<;>intro h|refine gW hf ?_|refine gX hZ ?_|apply gK)<;>conv=>whnf
  all_goals exact gJ
 obtain⟨rfl,d2⟩:=j1k q3;rcases d2 with⟨d1,-⟩|⟨-,d2⟩
 rotate_left
 ·cases d2
 have gA:k=3→ja7 x=true:=fun c3=>by simpa[c3] using d1
 by_cases c1:k=1
 ·subst c1;cases q4;show Fr _ _ _ _ _ (.ret [iv 0]) _
  have hZ:True:=trivial;refine gR Tryz.func36 ?_;repeat'(first|refine gU ?_|apply gE<;>intro h|apply gM<;>intro h|refine gW hf ?_|apply gK)<;>conv=>whnf
  all_goals exact gJ
 ·rw[decide_eq_false c1] at q4;dsimp only at q4;have hg:=jdo hE ht [] _ j7o vl _ qA ty _ hA lb r l' (by omega) (by omega) q4
  by_cases c3:k=3
  ·rw[gA c3] at hZ;cases r with
   |error e=>
    obtain⟨he,hg⟩:=hg;refine⟨he,?_⟩;refine gR Tryz.func36 ?_;repeat'(first|refine gU ?_|apply gE<;>intro h|apply gM<;>intro h|refine gW hf ?_|refine gX hZ ?_|refine gW hg ?_|apply gK)<;>conv=>whnf
    all_goals exact gJ
   |ok u=>
    have hg:Fr _ _ _ _ _ (.ret [iv 0]) _:=hg;show Fr _ _ _ _ _ (.ret [iv 0]) _
    refine gR Tryz.func36 ?_;repeat'(first|refine gU ?_|apply gE<;>intro h|apply gM<;>intro h|refine gW hf ?_|refine gX hZ ?_|refine gW hg ?_|apply gK)<;>conv=>whnf
    all_goals exact gJ
  ·have hZ:True:=trivial;cases r with
   |error e=>
    obtain⟨he,hg⟩:=hg;refine⟨he,?_⟩;refine gR Tryz.func36 ?_;repeat'(first|refine gU ?_|apply gE<;>intro h|apply gM<;>intro h|refine gW hf ?_|refine gW hg ?_|apply gK)<;>conv=>whnf
    all_goals exact gJ
   |ok u=>
    have hg:Fr _ _ _ _ _ (.ret [iv 0]) _:=hg;show Fr _ _ _ _ _ (.ret [iv 0]) _
    refine gR Tryz.func36 ?_;repeat'(first|refine gU ?_|apply gE<;>intro h|apply gM<;>intro h|refine gW hf ?_|refine gW hg ?_|apply gK)<;>conv=>whnf
    all_goals exact gJ
end
def jqa(cs:List PV)(n:Int)(h0:0≤n)(h1:n≤1048576):Finds C1 34 [.cp cs,iv n] [] fun r st=>r=.ret [xI]∧st=[runB cs n n]:=by
 have hw:=jcA cs n h0 h1;have hc:=jaj cs n n;refine gR Tryz.func34 ?_;repeat'(first|refine gU ?_|apply gE<;>intro h|apply gM<;>intro h|refine j6e hw rfl rfl (j1z rfl ?_)|refine gW hc ?_|apply gK)<;>conv=>whnf
 show VRet C1 _ 0 [xI] [runB cs n n] _
 exact j1g (.inr ⟨rfl,rfl⟩) rfl rfl rfl ⟨rfl,rfl⟩
def j5P(s:List UInt8):List En→Option En
 |[]=>none
 |e::r=>if e.nm=s then some e else j5P s r
def jfA(es:List En)(b:Bool)(z:Nat)(xs:List PV)(hz:z=19∨xs=[])(qA:EnsP es xs)(hB:es.length≤1000000)(s:List UInt8):∃w,EnP ((j5P s es).getD enz) w∧Pf C1 32 [.sl b z xs,sv s] [w,bv (j5P s es).isSome]:=by
 have hlen:=qA.len;refine Finds.out (P:=fun w=>EnP ((j5P s es).getD enz) w) (R:=fun w=>.ret [w,bv (j5P s es).isSome]) ?_
 refine gR Tryz.func32 ?_;repeat'(first|refine gU ?_|apply gE<;>intro h|apply gM<;>intro h|apply gK)<;>conv=>whnf
 refine j04 (G:=Nat) (fun i=>[(6,iv i)]) (fun _=>_) (fun i=>i≤es.length∧j5P s (es.drop i)=j5P s es) (fun i=>es.length-i) 0 ⟨by omega,rfl⟩ rfl rfl ?_
 rintro i ⟨hi,hA⟩;dsimp only at hi hA⊢;repeat'(first|refine gU ?_|apply gE<;>intro h|apply gM<;>intro h|apply gK)<;>conv=>whnf
 ·have gA:i<es.length:=by omega
  obtain⟨e,he⟩:∃e,es[i]?=some e:=⟨_,AA gA⟩;obtain⟨w,hw,hP⟩:=qA.at he;rw[drop_at he,j5P] at hA;have wA:=hP;obtain⟨a1,a2,a3,a4,a5,a6,a7,a8,a9,a10,a11,a12,a13,a14,a15,a16,a17,a18,a19,a20,rfl,-⟩:=hP
  by_cases c:e.nm=s
  ·rw[if_pos c] at hA;have cc:(e.nm == s)=true:=by simpa using c
   rw[←hA];repeat'(first|refine gU ?_|apply gE<;>intro h|apply gM<;>intro h|refine VNat.mk i rfl ?_|refine VIdx.mk _ hw ?_|refine gZ hz ?_|refine j1w ?_|apply gK)<;>conv=>whnf
   exact⟨_,wA,rfl⟩
  ·rw[if_neg c] at hA;have cc:(e.nm == s)=false:=by simpa using c
   repeat'(first|refine gU ?_|apply gE<;>intro h|apply gM<;>intro h|refine VNat.mk i rfl ?_|refine VIdx.mk _ hw ?_|refine gZ hz ?_|refine j1w ?_|apply gK)<;>conv=>whnf
   exact VAgain.mk _ rfl _ (j0a rfl rfl rfl) ⟨i+1,⟨gA,hA⟩,by omega,rfl⟩
 ·rw[AV (by omega),j5P] at hA
  rw[←hA];exact⟨_,jnK,rfl⟩
def jje:∀{es:List En}{E:Nv}{s:List UInt8},NvG E→jd0 E es→E.es.length+es.length≤3000→(∀i,getR s E.tr=some i→j0E (jau E es) s=E.es[i.toNat]?)∧(getR s E.tr=none→j0E (jau E es) s=j5P s es)
 |[],E,s,_,_,_=>by
  simp only[jau,j0E,j5P];exact⟨fun i h=>by rw[h],fun h=>by rw[h]⟩
 |e::r,E,s,hG,⟨⟨o1,o2,_,_,_⟩,o6⟩,hl=>by
  simp only[AC] at hl;have hA:=(hG.push o1 (by omega)).1
  obtain⟨k1,k2⟩:=jje (es:=r) (s:=s) hA o6 (by simp only[Nv.push,AL,AC,AG];omega)
  rw[jau,j5P];refine⟨fun i hi=>?_,fun hn=>?_⟩
  ·have hb:=hG.ok.idx s i hi;rw[k1 i (j9J hA.bst (j9U (fun h=>by rw[h,o2] at hi;cases hi) (jby hi)))]
   exact AW (by omega)
  ·by_cases c:e.nm=s
   ·subst c;rw[if_pos rfl,k1 _ (j9J hA.bst (jii _))];simp[Nv.push]
   ·rw[if_neg c];refine k2 ?_;cases hg:getR s (E.push e).tr with
    |none=>rfl
    |some j=>
     rcases j9T (jby hg) with⟨h,-⟩|h
     ·exact absurd h.symm c
     ·rw[j9J hG.bst h] at hn;cases hn
def jua(s:List UInt8):j0E nv14 s=j5P s lib14:=(jje jut (jaB jmU) (by decide)).2 rfl
def jv4(s:List UInt8):(getR s nv14.tr).isSome=(j5P s lib14).isSome:=by
 rw[←jua,j0E];cases hg:getR s nv14.tr with
 |none=>rfl
 |some i=>
  have:=nv14_G.ok.idx s i hg;dsimp only;rw[AA (by omega)]
  rfl
open Go Go.Am Go.Gw
def je0(l:Lv):∀v,LvP l v→Pf C1 129 [v] [encL l]:=by
 induction l using Lv.ind with
 |_ k nn ls ih=>
 intro v h;obtain⟨_,_,_,b,z,xs,⟨rfl,rfl,rfl⟩,rfl,hz,wC,hlen,hD⟩:=h.open;have wB:encL (.mk k nn ls)=.ag [iv k,iv nn,j7F ls]:=by cases ls<;>rfl
 rw[wB];refine gR Tryz.func129 ?_;repeat'(first|refine gU ?_|apply gE<;>intro h|apply gM<;>intro h|apply gK)<;>conv=>whnf
 refine j04 (G:=Nat) (fun i=>[(4,iv i)]) (fun i=>match i with
   |0=>[.box 86 [iv k,iv nn,.sl b z xs],.box 86 [iv 0,iv 0,.sl true 0 []],.box 86 [iv k,iv nn,.sl true 0 []]]
   |n+1=>[.box 86 [iv k,iv nn,.sl b z xs],.box 86 [iv 0,iv 0,.sl true 0 []],.box 86 [iv k,iv nn,.ms 3 (n+1)],.row false 86 3 ((ls.take (n+1)).map encL)]) (fun i=>i≤ls.length) (fun i=>ls.length-i) 0 (by omega) rfl rfl ?_
 intro i hi;have hA:∀(hB:i<ls.length),∃lc,ls[i]?=some lc∧∃v,xs[i]?=some v∧LvP lc v∧Pf C1 129 [v] [encL lc]:=fun hB=>by
  obtain⟨lc,gA⟩:∃lc,ls[i]?=some lc:=⟨_,AA hB⟩;obtain⟨v,hv,hl⟩:=wC.at gA;exact⟨lc,gA,v,hv,hl,ih _ (AE gA) _ hl⟩
 cases i with
 |zero=>
  repeat'(first|refine gU ?_|apply gE<;>intro h|apply gM<;>intro h|apply gK)<;>conv=>whnf
  ·obtain⟨lc,gA,v,hv,hl,qA⟩:=hA (by omega)
   have e:(ls.take (0+1)).map encL=[encL lc]:=by rw[take_snoc' gA];rfl
   obtain⟨k2,n2,b2,z2,x2,he⟩:=j0t lc;rw[he] at qA e;obtain⟨k1,n1,l1,b1,z1,x1,rfl,rfl,gC,qB,wA,hC⟩:=hl.open;repeat'(first|refine gU ?_|apply gE<;>intro h|apply gM<;>intro h|refine VIdx.mk _ hv ?_|refine gZ hz ?_|refine gX qA ?_|refine j01 qA fun _=>?_|apply gK)<;>conv=>whnf
   exact VAgain.mk _ rfl _ (j0B (.cons (j02 rfl rfl) (.cons (j02 rfl rfl) (.cons (j02 rfl rfl) (.cons (j05 rfl) .nil)))) (.cons (j02 rfl rfl) (.cons (j02 rfl rfl) (.cons (j02 rfl rfl) (.cons (j05 rfl) .nil)))) rfl rfl rfl rfl rfl) ⟨1,by omega,by omega,congrArg (AS.mk _) (by dsimp only;rw[e];rfl)⟩
  ·obtain rfl:ls=[]:=AJ (by omega)
   rfl
 |succ i=>
  have qC:((ls.take (i+1)).map encL).length=i+1:=by simp;omega
  repeat'(first|refine gU ?_|apply gE<;>intro h|apply gM<;>intro h|apply gK)<;>conv=>whnf
  ·obtain⟨lc,gA,v,hv,hl,qA⟩:=hA (by omega)
   have e:(ls.take (i+1+1)).map encL=(ls.take (i+1)).map encL++[encL lc]:=by rw[take_snoc' gA];simp
   have gB:((ls.take (i+1)).map encL++[encL lc]).all (pur 8)=true:=e▸j0V _ 6;obtain⟨k2,n2,b2,z2,x2,he⟩:=j0t lc;rw[he] at qA e gB;obtain⟨k1,n1,l1,b1,z1,x1,rfl,rfl,gC,qB,wA,hC⟩:=hl.open;repeat'(first|refine gU ?_|apply gE<;>intro h|apply gM<;>intro h|refine VIdx.mk _ hv ?_|refine gZ hz ?_|refine gX qA ?_|refine j01 qA fun _=>?_|refine VOk.mk (j0N (w:=40) (r:=140737488355328) qC rfl rfl rfl rfl (by simp only[AC,AG];omega) (by simp only[AC,AG];omega)) ?_|apply gK)<;>conv=>whnf
   exact VAgain.mk _ rfl _ (j0B (.cons (j02 rfl rfl) (.cons (j02 rfl rfl) (.cons (j02 rfl rfl) (.cons (j05 gB) .nil)))) (.cons (j02 rfl rfl) (.cons (j02 rfl rfl) (.cons (j02 rfl rfl) (.cons (j05 gB) .nil)))) rfl rfl rfl rfl rfl) ⟨i+1+1,by omega,by omega,congrArg (AS.mk _) (by dsimp only;rw[e];rfl)⟩
  ·have hB:i+1=ls.length:=by omega
   have e:(ls.take (i+1)).map encL=ls.map encL:=by rw[hB,BT]
   refine j0m rfl (j03 (j2V (j03 rfl (j03 rfl (j03 (j0p rfl qC.symm (j0V _ 4)) j0h)))) j0h) rfl ?_;rw[j4T (by omega),←e]
-- the second loop: $1: what lies there behind what is made;$2: a slice of levels that is made;$3: the row's number;$4: shapes;$5,$6: the ends
def j3m(t:Tm):∀v,TmP t v→Pf C1 81 [v] [encT t]:=by
 induction t using Tm.ind with
 |_ k nn s ls ts ih=>
 intro v h;obtain⟨_,_,_,_,_,b,z,xs,c,y,ys,⟨rfl,rfl,rfl,rfl,rfl⟩,rfl,hz,hF,hlen,wF,hy,wE,hlen2,qF,gF⟩:=h.open;rw[j2O];refine gR Tryz.func81 ?_;repeat'(first|refine gU ?_|apply gE<;>intro h|apply gM<;>intro h|apply gK)<;>conv=>whnf
 refine j04 (G:=Nat) (fun i=>[(4,iv i)]) (fun i=>match i with
   |0=>[.box 25 [iv k,iv nn,sv s,.sl b z xs,.sl c y ys],.box 25 zTm,.box 25 [iv k,iv nn,sv s,.sl true 0 [],.sl true 0 []]]
   |n+1=>[.box 25 [iv k,iv nn,sv s,.sl b z xs,.sl c y ys],.box 25 zTm,.box 25 [iv k,iv nn,sv s,.ms 3 (n+1),.sl true 0 []],.row false 86 3 ((ls.take (n+1)).map encL)]) (fun i=>i≤ls.length) (fun i=>ls.length-i) 0 (by omega) rfl rfl ?_
 intro i hi;have gB:∀(hE:i<ls.length),∃lc,ls[i]?=some lc∧∃v,xs[i]?=some v∧LvP lc v∧Pf C1 129 [v] [encL lc]:=fun hE=>by
  obtain⟨lc,gA⟩:∃lc,ls[i]?=some lc:=⟨_,AA hE⟩;obtain⟨v,hv,hl⟩:=hF.at gA;exact⟨lc,gA,v,hv,hl,je0 lc v hl⟩
 cases i with
 |zero=>
  repeat'(first|refine gU ?_|apply gE<;>intro h|apply gM<;>intro h|apply gK)<;>conv=>whnf
  ·obtain⟨lc,gA,v,hv,hl,qA⟩:=gB (by omega)
   have e:(ls.take (0+1)).map encL=[encL lc]:=by rw[take_snoc' gA];rfl
   obtain⟨k2,n2,b2,z2,x2,he⟩:=j0t lc;rw[he] at qA e;obtain⟨k1,n1,l1,b1,z1,x1,rfl,rfl,qD,qB,wA,qC⟩:=hl.open;repeat'(first|refine gU ?_|apply gE<;>intro h|apply gM<;>intro h|refine VIdx.mk _ hv ?_|refine gZ hz ?_|refine gX qA ?_|refine j01 qA fun _=>?_|apply gK)<;>conv=>whnf
   exact VAgain.mk _ rfl _ (j0B (.cons (j02 rfl rfl) (.cons (j02 rfl rfl) (.cons (j02 rfl rfl) (.cons (j05 rfl) .nil)))) (.cons (j02 rfl rfl) (.cons (j02 rfl rfl) (.cons (j02 rfl rfl) (.cons (j05 rfl) .nil)))) rfl rfl rfl rfl rfl) ⟨1,by omega,by omega,congrArg (AS.mk _) (by dsimp only;rw[e];rfl)⟩
  ·obtain rfl:ls=[]:=AJ (by omega)
   refine j04 (G:=Nat) (fun j=>[(5,iv j)]) (fun j=>match j with
     |0=>[.box 25 [iv k,iv nn,sv s,.sl b z xs,.sl c y ys],.box 25 zTm,.box 25 [iv k,iv nn,sv s,.sl true 0 [],.sl true 0 []]]
     |n+1=>[.box 25 [iv k,iv nn,sv s,.sl b z xs,.sl c y ys],.box 25 zTm,.box 25 [iv k,iv nn,sv s,.sl true 0 [],.ms 3 (n+1)],.row false 25 5 ((ts.take (n+1)).map encT)]) (fun j=>j≤ts.length) (fun j=>ts.length-j) 0 (by omega) rfl rfl ?_
   intro j hj;have hA:∀(gC:j<ts.length),∃lc,ts[j]?=some lc∧∃v,ys[j]?=some v∧TmP lc v∧Pf C1 81 [v] [encT lc]:=fun gC=>by
    obtain⟨lc,gA⟩:∃lc,ts[j]?=some lc:=⟨_,AA gC⟩;obtain⟨v,hv,hl⟩:=wE.at gA;exact⟨lc,gA,v,hv,hl,ih _ (AE gA) _ hl⟩
   cases j with
   |zero=>
    repeat'(first|refine gU ?_|apply gE<;>intro h|apply gM<;>intro h|apply gK)<;>conv=>whnf
    ·obtain⟨lc,gA,v,hv,hl,qA⟩:=hA (by omega)
     have e2:(ts.take (0+1)).map encT=[encT lc]:=by rw[take_snoc' gA];rfl
     obtain⟨k2,n2,s2,b2,z2,x2,c2,y2,w2,he⟩:=j06 lc;rw[he] at qA e2;obtain⟨k1,n1,s1,l1,t1,b1,z1,x1,c1,y1,ys1,rfl,rfl,qD,qB,wA,qC,kE,wC,hB,hC,hD⟩:=hl.open;repeat'(first|refine gU ?_|apply gE<;>intro h|apply gM<;>intro h|refine VIdx.mk _ hv ?_|refine gZ hy ?_|refine gX qA ?_|refine j01 qA fun _=>?_|apply gK)<;>conv=>whnf
     exact VAgain.mk _ rfl _ (j0B (.cons (j02 rfl rfl) (.cons (j02 rfl rfl) (.cons (j02 rfl rfl) (.cons (j05 rfl) .nil)))) (.cons (j02 rfl rfl) (.cons (j02 rfl rfl) (.cons (j02 rfl rfl) (.cons (j05 rfl) .nil)))) rfl rfl rfl rfl rfl) ⟨1,by omega,by omega,congrArg (AS.mk _) (by dsimp only;rw[e2];rfl)⟩
    ·obtain rfl:ts=[]:=AJ (by omega)
     rfl
   |succ j=>
    have wD:((ts.take (j+1)).map encT).length=j+1:=by simp;omega
    repeat'(first|refine gU ?_|apply gE<;>intro h|apply gM<;>intro h|apply gK)<;>conv=>whnf
    ·obtain⟨lc,gA,v,hv,hl,qA⟩:=hA (by omega)
     have e2:(ts.take (j+1+1)).map encT=(ts.take (j+1)).map encT++[encT lc]:=by rw[take_snoc' gA];simp
     have wB:((ts.take (j+1)).map encT++[encT lc]).all (pur 8)=true:=e2▸j0D _ 6;obtain⟨k2,n2,s2,b2,z2,x2,c2,y2,w2,he⟩:=j06 lc;rw[he] at qA e2 wB;obtain⟨k1,n1,s1,l1,t1,b1,z1,x1,c1,y1,ys1,rfl,rfl,qD,qB,wA,qC,kE,wC,hB,hC,hD⟩:=hl.open;repeat'(first|refine gU ?_|apply gE<;>intro h|apply gM<;>intro h|refine VIdx.mk _ hv ?_|refine gZ hy ?_|refine gX qA ?_|refine j01 qA fun _=>?_|refine VOk.mk (j0N (w:=80) (r:=140737488355328) wD rfl rfl rfl rfl (by simp only[AC,AG];omega) (by simp only[AC,AG];omega)) ?_|apply gK)<;>conv=>whnf
     exact VAgain.mk _ rfl _ (j0B (.cons (j02 rfl rfl) (.cons (j02 rfl rfl) (.cons (j02 rfl rfl) (.cons (j05 wB) .nil)))) (.cons (j02 rfl rfl) (.cons (j02 rfl rfl) (.cons (j02 rfl rfl) (.cons (j05 wB) .nil)))) rfl rfl rfl rfl rfl) ⟨j+1+1,by omega,by omega,congrArg (AS.mk _) (by dsimp only;rw[e2];rfl)⟩
    ·have gC:j+1=ts.length:=by omega
     have e2:(ts.take (j+1)).map encT=ts.map encT:=by rw[gC,BT]
     (refine j0m rfl (j03 (j2V (j03 rfl (j03 rfl (j03 rfl (j03 rfl (j03 (j0p rfl wD.symm (j0D _ 4)) j0h)))))) j0h) rfl ?_;rw[j1V (by omega),←e2];rfl)
 |succ i=>
  have qE:((ls.take (i+1)).map encL).length=i+1:=by simp;omega
  repeat'(first|refine gU ?_|apply gE<;>intro h|apply gM<;>intro h|apply gK)<;>conv=>whnf
  ·obtain⟨lc,gA,v,hv,hl,qA⟩:=gB (by omega)
   have e:(ls.take (i+1+1)).map encL=(ls.take (i+1)).map encL++[encL lc]:=by rw[take_snoc' gA];simp
   have wB:((ls.take (i+1)).map encL++[encL lc]).all (pur 8)=true:=e▸j0V _ 6;obtain⟨k2,n2,b2,z2,x2,he⟩:=j0t lc;rw[he] at qA e wB;obtain⟨k1,n1,l1,b1,z1,x1,rfl,rfl,qD,qB,wA,qC⟩:=hl.open;repeat'(first|refine gU ?_|apply gE<;>intro h|apply gM<;>intro h|refine VIdx.mk _ hv ?_|refine gZ hz ?_|refine gX qA ?_|refine j01 qA fun _=>?_|refine VOk.mk (j0N (w:=40) (r:=140737488355328) qE rfl rfl rfl rfl (by simp only[AC,AG];omega) (by simp only[AC,AG];omega)) ?_|apply gK)<;>conv=>whnf
   exact VAgain.mk _ rfl _ (j0B (.cons (j02 rfl rfl) (.cons (j02 rfl rfl) (.cons (j02 rfl rfl) (.cons (j05 wB) .nil)))) (.cons (j02 rfl rfl) (.cons (j02 rfl rfl) (.cons (j02 rfl rfl) (.cons (j05 wB) .nil)))) rfl rfl rfl rfl rfl) ⟨i+1+1,by omega,by omega,congrArg (AS.mk _) (by dsimp only;rw[e];rfl)⟩
  ·have hE:i+1=ls.length:=by omega
   have e:(ls.take (i+1)).map encL=ls.map encL:=by rw[hE,BT]
   have kF:j7F ls=.sl false 3 ((ls.take (i+1)).map encL):=by rw[j4T (by omega),e]
   have gD:((ls.take (i+1)).map encL).all (pur 6)=true:=j0V _ 4;rw[kF];refine j04 (G:=Nat) (fun j=>[(5,iv j)]) (fun j=>match j with
     |0=>[.box 25 [iv k,iv nn,sv s,.sl b z xs,.sl c y ys],.box 25 zTm,.box 25 [iv k,iv nn,sv s,.ms 3 (i+1),.sl true 0 []],.row false 86 3 ((ls.take (i+1)).map encL)]
     |n+1=>[.box 25 [iv k,iv nn,sv s,.sl b z xs,.sl c y ys],.box 25 zTm,.box 25 [iv k,iv nn,sv s,.ms 3 (i+1),.ms 4 (n+1)],.row false 86 3 ((ls.take (i+1)).map encL),.row false 25 5 ((ts.take (n+1)).map encT)]) (fun j=>j≤ts.length) (fun j=>ts.length-j) 0 (by omega) rfl rfl ?_
   intro j hj;have hA:∀(gC:j<ts.length),∃lc,ts[j]?=some lc∧∃v,ys[j]?=some v∧TmP lc v∧Pf C1 81 [v] [encT lc]:=fun gC=>by
    obtain⟨lc,gA⟩:∃lc,ts[j]?=some lc:=⟨_,AA gC⟩;obtain⟨v,hv,hl⟩:=wE.at gA;exact⟨lc,gA,v,hv,hl,ih _ (AE gA) _ hl⟩
   cases j with
   |zero=>
    repeat'(first|refine gU ?_|apply gE<;>intro h|apply gM<;>intro h|apply gK)<;>conv=>whnf
    ·obtain⟨lc,gA,v,hv,hl,qA⟩:=hA (by omega)
     have e2:(ts.take (0+1)).map encT=[encT lc]:=by rw[take_snoc' gA];rfl
     obtain⟨k2,n2,s2,b2,z2,x2,c2,y2,w2,he⟩:=j06 lc;rw[he] at qA e2;obtain⟨k1,n1,s1,l1,t1,b1,z1,x1,c1,y1,ys1,rfl,rfl,qD,qB,wA,qC,kE,wC,hB,hC,hD⟩:=hl.open;repeat'(first|refine gU ?_|apply gE<;>intro h|apply gM<;>intro h|refine VIdx.mk _ hv ?_|refine gZ hy ?_|refine gX qA ?_|refine j01 qA fun _=>?_|apply gK)<;>conv=>whnf
     exact VAgain.mk _ rfl _ (j0B (.cons (j02 rfl rfl) (.cons (j02 rfl rfl) (.cons (j02 rfl rfl) (.cons (j05 (j0V _ 6)) (.cons (j05 rfl) .nil))))) (.cons (j02 rfl rfl) (.cons (j02 rfl rfl) (.cons (j02 rfl rfl) (.cons (j05 (j0V _ 6)) (.cons (j05 rfl) .nil))))) rfl rfl rfl rfl rfl) ⟨1,by omega,by omega,congrArg (AS.mk _) (by dsimp only;rw[e2];rfl)⟩
    ·obtain rfl:ts=[]:=AJ (by omega)
     (refine j0m rfl (j03 (j2V (j03 rfl (j03 rfl (j03 rfl (j03 (j0p rfl qE.symm gD) (j03 rfl j0h)))))) j0h) rfl ?_;rfl)
   |succ j=>
    have wD:((ts.take (j+1)).map encT).length=j+1:=by simp;omega
    repeat'(first|refine gU ?_|apply gE<;>intro h|apply gM<;>intro h|apply gK)<;>conv=>whnf
    ·obtain⟨lc,gA,v,hv,hl,qA⟩:=hA (by omega)
     have e2:(ts.take (j+1+1)).map encT=(ts.take (j+1)).map encT++[encT lc]:=by rw[take_snoc' gA];simp
     have wB:((ts.take (j+1)).map encT++[encT lc]).all (pur 8)=true:=e2▸j0D _ 6;obtain⟨k2,n2,s2,b2,z2,x2,c2,y2,w2,he⟩:=j06 lc;rw[he] at qA e2 wB;obtain⟨k1,n1,s1,l1,t1,b1,z1,x1,c1,y1,ys1,rfl,rfl,qD,qB,wA,qC,kE,wC,hB,hC,hD⟩:=hl.open;repeat'(first|refine gU ?_|apply gE<;>intro h|apply gM<;>intro h|refine VIdx.mk _ hv ?_|refine gZ hy ?_|refine gX qA ?_|refine j01 qA fun _=>?_|refine VOk.mk (j0N (w:=80) (r:=140737488355328) wD rfl rfl rfl rfl (by simp only[AC,AG];omega) (by simp only[AC,AG];omega)) ?_|apply gK)<;>conv=>whnf
     exact VAgain.mk _ rfl _ (j0B (.cons (j02 rfl rfl) (.cons (j02 rfl rfl) (.cons (j02 rfl rfl) (.cons (j05 (j0V _ 6)) (.cons (j05 wB) .nil))))) (.cons (j02 rfl rfl) (.cons (j02 rfl rfl) (.cons (j02 rfl rfl) (.cons (j05 (j0V _ 6)) (.cons (j05 wB) .nil))))) rfl rfl rfl rfl rfl) ⟨j+1+1,by omega,by omega,congrArg (AS.mk _) (by dsimp only;rw[e2];rfl)⟩
    ·have gC:j+1=ts.length:=by omega
     have e2:(ts.take (j+1)).map encT=ts.map encT:=by rw[gC,BT]
     (refine j0m rfl (j03 (j2V (j03 rfl (j03 rfl (j03 rfl (j03 (j0p rfl qE.symm gD) (j03 (j0p rfl wD.symm (j0D _ 4)) j0h)))))) j0h) rfl ?_;rw[j1V (by omega),←e2])
open Go Go.Am Go.Gw
def jb0(d:Dc)(v:PV)(h:DcP d v):Pf C1 35 [v] [bv (j1F d)]:=by
 obtain⟨k,p,nm,ty,vl,fx,cs,a1,a2,a3,a4,a5,a6,a7,a8,a9,b1,b2,b3,b4,b5,b6,b7,b8,b9,cb,cz,cx,hB,gA,hz,wA,hlen,wC,hk,hp,hE⟩:=h;have hn:=j8d nm wC;have ht:=j3U ty _ hB hB.names p 0;have hv:=j3U vl _ gA gA.names p 0;have hs:=j2D vl _ gA tz _ tz_P;have kE:=wA.len;have hF:1≤k∧k≤5→j2f nm=true→j0s ty p 0=true→j1F ⟨k,p,nm,ty,vl,fx,cs⟩=(if k=5 then eqTm vl tz&&(decide (0≤fx)&&(decide (fx≤16)&&(decide (cs.length≤8) && !cs.any (j2I p))))
    else if fx≠0∨cs.length≠0 then false
    else if 2≤k∧k≤4 then j0s vl p 0
    else eqTm vl tz):=fun e1 e2 e3=>by rw[j1F,if_pos (by simp[e1,e2,e3])]
 refine gR Tryz.func35 ?_;repeat'(first|refine gU ?_|apply gE<;>intro h|apply gM<;>intro h|refine gX hn ?_|refine gX ht ?_|refine gX hv ?_|refine gX hs ?_|apply gK)<;>conv=>whnf
 rotate_left 5
 ·have h1:1≤k∧k≤5:=by omega
  have hD:j2f nm=true:=by assumption
  have qC:j0s ty p 0=true:=by assumption
  have qD:k=5:=by assumption
  have hC:eqTm vl tz=true:=by assumption
  have gD:cs.length≤8:=by omega
  have e1:(0:Int)≤fx:=by omega
  have e2:fx≤16:=by omega
  have wD:j1F ⟨k,p,nm,ty,vl,fx,cs⟩ = !cs.any (j2I p):=by
   rw[hF h1 hD qC,if_pos qD];simp[hC,e1,e2,gD]
  rw[wD];refine j04 (G:=Nat) (fun i=>[(4,iv i)]) (fun _=>_) (fun i=>i≤cs.length∧(cs.drop i).any (j2I p)=cs.any (j2I p)) (fun i=>cs.length-i) 0 ⟨by omega,rfl⟩ rfl rfl ?_
  rintro i ⟨hi,hA⟩;repeat'(first|refine gU ?_|apply gE<;>intro h|apply gM<;>intro h|apply gK)<;>conv=>whnf
  ·have qA:i<cs.length:=by omega
   obtain⟨lc,wB⟩:∃lc,cs[i]?=some lc:=⟨_,AA qA⟩;obtain⟨v,hv,hl⟩:=wA.at wB;obtain⟨s0,k1,n1,s1,b',z',xs',c',y',ys',t',rfl,rfl,hT,gC⟩:=hl.open;have gB:=j8d s0 gC;have qB:=j3U t' _ hT hT.names p 0;rw[drop_at wB,DT] at hA;refine VIdx.mk _ hv (VOk.mk (j0z rfl hz) ?_);repeat'(first|refine gU ?_|apply gE<;>intro h|apply gM<;>intro h|refine gX gB ?_|refine gX qB ?_|refine j01 gB fun _=>?_|refine VIdx.mk _ hv ?_|refine gZ hz ?_|refine j01 qB fun _=>?_|apply gK)<;>conv=>whnf
   ·have hw:j2I p (s0,t')=false:=by simp_all[j2I]
    rw[hw,Bool.false_or] at hA;exact VAgain.mk _ rfl _ (j0a rfl rfl rfl) ⟨i+1,⟨qA,hA⟩,by omega,rfl⟩
   ·have hw:j2I p (s0,t')=true:=by simp_all[j2I]
    rw[←hA,hw,FZ];rfl
   ·have hw:j2I p (s0,t')=true:=by simp_all[j2I]
    rw[←hA,hw,FZ];rfl
  ·have qA:i=cs.length:=by omega
   subst qA;rw[BU] at hA;rw[←hA];rfl
 all_goals try(rw[j1F,if_neg (by simp;omega)];done)
 all_goals try(rw[hF (by omega) (by assumption) (by assumption)];simp_all[retV];done)
 all_goals try(rw[hF (by omega) (by assumption) (by assumption)];simp_all[retV];omega)
 all_goals try(rw[hF (by omega) (by assumption) (by assumption)];simp_all[retV];intros;omega)
 all_goals try(rw[hF (by omega) (by assumption) (by assumption),if_neg (by omega),if_neg (by omega),if_neg (by omega)];rfl)
 all_goals try(rw[hF (by omega) (by assumption) (by assumption),if_neg (by omega),if_neg (by omega),if_pos (by omega)];rfl)
 all_goals try(rw[hF (by omega) (by assumption) (by assumption),if_neg (by omega),if_pos (by omega)];done)
 all_goals try(rw[j1F,if_neg (by simp_all)];done)
open Go Go.Am Go.Gw
def jmp(n a b:Int):Pf C1 86 [iv n,iv a,iv b] [bv (j3D n a b)]:=by
 unfold j3D;refine gR Tryz.func86 ?_;repeat'(first|refine gU ?_|apply gE<;>intro h|apply gM<;>intro h|apply gK)<;>conv=>whnf
 all_goals
  refine j0O ?_;rw[CL];simp;omega
def jh3(d:Dc)(v:PV)(h:DcP d v)(ht q:Int)(hx:entryD d ht=.ok (enOf d q)):∃w e,EnP (enOf d q) w∧Pf C1 38 [v,iv ht] [w,iv e]:=by
 have hF:=jb0 d v h;have hs:=jmp ht 1 1048576;suffices key:Finds C1 38 [v,iv ht] [] fun r _=>∃w e,EnP (enOf d q) w∧r=.ret [w,iv e] by
  obtain⟨r,st',⟨w,e,h1,rfl⟩,N,hN⟩:=key;exact⟨w,e,h1,_,st',rfl,N,hN⟩
 obtain⟨k,p,nm,ty,vl,fx,cs,a1,a2,a3,a4,a5,a6,a7,a8,a9,b1,b2,b3,b4,b5,b6,b7,b8,b9,cb,cz,cx,qA,hA,hz,wA,hlen,gA,hk,hp,hB⟩:=h;have hT:=j3m ty _ qA;have hV:=j3m vl _ hA;have w1:=qA.w;have w2:=hA.w;obtain⟨e1,e2,e3,e4,e5,e6,e7,e8,e9,he⟩:=j06 ty;obtain⟨g1,g2,g3,g4,g5,g6,g7,g8,g9,hg⟩:=j06 vl;unfold TmW at w1 w2;rw[he] at hT w1;rw[hg] at hV w2;have hP:=jdd (k:=k) (p:=p) (fx:=fx) (cs:=cs) (ht:=q) w1 w2 gA;unfold entryD plain8 at hx;dsimp only at hx;generalize j1F ⟨k,p,nm,ty,vl,fx,cs⟩=f at *;cases f with
 |false=>cases hx
 |true=>
  by_cases c5:k=5
  ·subst c5;cases hx
  have e5:(true && !decide (k=5))=true:=by simp[c5]
  rw[e5] at hx;dsimp only at hx
  by_cases c2:k=2
  ·rw[if_pos c2] at hx
   by_cases c3:1≤ht∧ht≤1048576
   ·rw[if_pos c3] at hx;have e3:j3D ht 1 1048576=true:=by simp[j3D,c3]
    rw[e3] at hs;cases hx;refine gR Tryz.func38 ?_;repeat'(first|refine gU ?_|apply gE<;>intro h|apply gM<;>intro h|refine gX hF ?_|refine gX hs ?_|refine j01 hT fun _=>?_|refine j01 hV fun _=>?_|refine gX hT ?_|refine gX hV ?_|apply gK)<;>conv=>whnf
    all_goals first|exact⟨_,_,hP,rfl⟩|contradiction|(exfalso;omega)
   ·rw[if_neg c3] at hx;cases hx
  ·rw[if_neg c2] at hx;have hs:True:=trivial;cases hx;refine gR Tryz.func38 ?_;repeat'(first|refine gU ?_|apply gE<;>intro h|apply gM<;>intro h|refine gX hF ?_|refine gX hs ?_|refine j01 hT fun _=>?_|refine j01 hV fun _=>?_|refine gX hT ?_|refine gX hV ?_|apply gK)<;>conv=>whnf
   all_goals first|exact⟨_,_,hP,rfl⟩|contradiction|(exfalso;omega)
open Go Go.Am Go.Gw
def encW(l:List (List UInt8)):PV:=match l with
 |[]=>.sl true 1 []
 |d::r=>.sl false 1 (svs (d::r))
def cnV(l:List (List UInt8)):PV:=match l with
 |[]=>.sl true 1 []
 |_::r=>.ms 1 (r.length+1)
def cnS(x:SO)(l:List (List UInt8)):Sto:=match l with
 |[]=>[x]
 |d::r=>[x,.row false 9 1 (svs (d::r))]
def jhQ(t:Tm):∀v,TmP t v→∀p kk,allT t p kk=true→sizT t≤1000000→Pf C1 138 [v] [encW (j0v t)]:=by
 induction t using Tm.ind with
 |_ k nn s ls ts ih=>
 intro v hv p kk gB hsz;have qB:=j4H gB;obtain⟨hE,hD,gC,-,hC⟩:=j0q gB;rw[jda];obtain⟨_,_,_,_,_,b,z,xs,c1,y,ys,⟨rfl,rfl,rfl,rfl,rfl⟩,rfl,hz,qE,hlen,gF,hy,wD,hlen2,kE,wE⟩:=hv.open;rw[sizT] at hsz
 by_cases h3:k=3
 ·obtain rfl:=qB.1 (by omega)
  obtain rfl:ys=[]:=by simpa using hlen2
  have e:ownC (.mk k nn s ls [])=[s]:=if_pos h3;rw[e,j0k,BF];refine gR Tryz.func138 ?_;repeat'(first|refine gU ?_|apply gE<;>intro h|apply gM<;>intro h|apply gK)<;>conv=>whnf
  refine j04 (G:=Unit) (fun _=>[]) (fun _=>_) (fun _=>True) (fun _=>0) () trivial rfl rfl ?_
  rintro _ _;repeat'(first|refine gU ?_|apply gE<;>intro h|apply gM<;>intro h|apply gK)<;>conv=>whnf
  exact j0m rfl (j03 (j0p rfl (by simp) (j2u [s])) j0h) rfl rfl
 ·have e:ownC (.mk k nn s ls ts)=[]:=if_neg h3;rw[e,BV];refine gR Tryz.func138 ?_;repeat'(first|refine gU ?_|apply gE<;>intro h|apply gM<;>intro h|apply gK)<;>conv=>whnf
  refine j04 (G:=Nat) (fun j=>[(4,iv j),(3,cnV (j0k (ts.take j)))]) (fun j=>cnS (.box 25 [iv k,iv nn,sv s,.sl b z xs,.sl c1 y ys]) (j0k (ts.take j))) (fun j=>j≤ts.length) (fun j=>ts.length-j) 0 (by omega) (by simp only[EC,j0k];rfl) (by simp only[EC,j0k];rfl) ?_
  intro j hj;dsimp only;have qA:∀(gD:j<ts.length),∃tc,ts[j]?=some tc∧∃w,ys[j]?=some w∧TmP tc w∧Pf C1 138 [w] [encW (j0v tc)]∧(j0k (ts.take j)).length+(j0v tc).length≤1000000:=fun gD=>by
   obtain⟨tc,gA⟩:∃tc,ts[j]?=some tc:=⟨_,AA gD⟩;obtain⟨w,hw,hl⟩:=wD.at gA;have wB:=AE gA;have qF:=ja0 gA;have kF:=j4f (ts.take j);have hF:=j4Q tc;exact⟨tc,gA,w,hw,hl,ih _ wB w hl p _ (j2v hC gA) (by omega),by omega⟩
  generalize wA:j0k (ts.take j)=acc at *;cases acc with
  |nil=>
   simp only[cnV,cnS];repeat'(first|refine gU ?_|apply gE<;>intro h|apply gM<;>intro h|apply gK)<;>conv=>whnf
   ·obtain⟨tc,gA,w,hw,hl,hA,hb⟩:=qA (by omega)
    have e2:j0k (ts.take (j+1))=j0v tc:=by rw[j2N gA,wA];rfl
    cases hl.c;cases hB:j0v tc with
    |nil=>
     rw[hB] at hA e2;simp only[encW] at hA;repeat'(first|refine gU ?_|apply gE<;>intro h|apply gM<;>intro h|refine VNat.mk j rfl ?_|refine VIdx.mk _ hw ?_|refine gZ hy ?_|refine gX hA ?_|apply gK)<;>conv=>whnf
     exact VAgain.mk _ rfl _ (j1a rfl) ⟨j+1,by omega,by omega,by rw[e2];rfl⟩
    |cons d r=>
     rw[hB] at hA e2 hb;simp only[encW] at hA;simp only[AC,AG] at hb;repeat'(first|refine gU ?_|apply gE<;>intro h|apply gM<;>intro h|refine VNat.mk j rfl ?_|refine VIdx.mk _ hw ?_|refine gZ hy ?_|refine gX hA ?_|refine VOk.mk (j8G (w:=16) (r:=140737488355328) rfl rfl (by simp;omega) (by simp;omega)) ?_|apply gK)<;>conv=>whnf
     exact VAgain.mk _ rfl _ (j0B (.cons (j02 rfl rfl) (.cons (j05 (j09 _)) .nil)) (.cons (j02 rfl rfl) (.cons (j05 (j09 _)) .nil)) rfl rfl rfl rfl rfl) ⟨j+1,by omega,by omega,by rw[e2];simp only[cnV,cnS,svs,BC,AC,AZ,AG,AP];rfl⟩
   ·have e2:j0k ts=[]:=by rw[←wA,BR (by omega)]
    rw[e2];rfl
  |cons d r=>
   simp only[cnV,cnS];repeat'(first|refine gU ?_|apply gE<;>intro h|apply gM<;>intro h|apply gK)<;>conv=>whnf
   ·obtain⟨tc,gA,w,hw,hl,hA,hb⟩:=qA (by omega)
    have e2:j0k (ts.take (j+1))=d::r++j0v tc:=by rw[j2N gA,wA]
    have wC:(svs (d::r)).length=r.length+1:=by simp
    cases hl.c;cases hB:j0v tc with
    |nil=>
     rw[hB,BF] at e2;rw[hB] at hA;simp only[encW] at hA;repeat'(first|refine gU ?_|apply gE<;>intro h|apply gM<;>intro h|refine VNat.mk j rfl ?_|refine VIdx.mk _ hw ?_|refine gZ hy ?_|refine gX hA ?_|refine VOk.mk (j0N (w:=16) (r:=140737488355328) wC rfl rfl rfl rfl (by simp only[AC,AG] at *;omega) (by simp only[AC,AG] at *;omega)) ?_|apply gK)<;>conv=>whnf
     exact VAgain.mk _ rfl _ (j0B (.cons (j02 rfl rfl) (.cons (j05 (j09 _)) .nil)) (.cons (j02 rfl rfl) (.cons (j05 (j09 _)) .nil)) rfl rfl rfl rfl rfl) ⟨j+1,by omega,by omega,by rw[e2];rfl⟩
    |cons d2 r2=>
     rw[hB] at hA e2 hb;simp only[encW] at hA;simp only[AC] at hb;have qD:(svs (d2::r2)).length=r2.length+1:=by simp
     have qC:(svs (d::r)++svs (d2::r2)).all (pur 8)=true:=by
      rw[show svs (d::r)++svs (d2::r2)=svs (d::r++d2::r2) by simp[svs]]
      exact j09 _
     repeat'(first|refine gU ?_|apply gE<;>intro h|apply gM<;>intro h|refine VNat.mk j rfl ?_|refine VIdx.mk _ hw ?_|refine gZ hy ?_|refine gX hA ?_|refine VOk.mk (j0N (w:=16) (r:=140737488355328) wC rfl rfl rfl rfl (by rw[qD];omega) (by rw[qD];omega)) ?_|apply gK)<;>conv=>whnf
     exact VAgain.mk _ rfl _ (j0B (.cons (j02 rfl rfl) (.cons (j05 qC) .nil)) (.cons (j02 rfl rfl) (.cons (j05 qC) .nil)) rfl rfl rfl rfl rfl) ⟨j+1,by omega,by omega,by rw[e2];simp only[cnV,cnS,svs,BC,BY,DQ,AL,AC,AZ];rw[show r.length+(r2.length+1)+1=r.length+1+(r2.length+1) by omega];rfl⟩
   ·have e2:j0k ts=d::r:=by rw[←wA,BR (by omega)]
    rw[e2];exact j0m rfl (j03 (j0p rfl (by simp) (j2u _)) j0h) rfl rfl
end Go.Proofs.YtbnodhcijeaceaaGreatDoor
namespace Go.Am
open Go Go.Hb
def jiz{C C':Cfg}{f:FuncId}{args rs:List PV}(hn:C'.nat f=some (j5T C f))(h:Pf C f args rs):Pf C' f args rs:=by
 obtain⟨r,st',rfl,N,hN⟩:=h;exact juy hn (jka (hN N (AU N)))
end Go.Am
namespace Go.Proofs.YtbnodhcijeaceaaGreatDoor
open Go Go.Am Go.Gw
noncomputable def C3:Cfg:=⟨C1.P,C1.fz,C1.raw,C1.keep,fun _=>false,fun f=>match Nat.beq f 30 with
 |true=>none
 |false=>some (j5T C1 f),C1.fzc,C1.pst,false⟩
def ju0:jhx C3:=fun f F hF=>by
 have hF:(match Nat.beq f 30 with
  |true=>none
  |false=>some (j5T C1 f))=some F:=hF
 split at hF
 ·cases hF
 ·cases hF;exact j5g (fun n=>(jsM n).call) f
def juY(n:Nat):EvOk C3 (ev C3 n):=ji3 (by kernel_rfl) (by kernel_rfl) ju0 n
def up3{f:FuncId}{args rs:List PV}(hf:Nat.beq f 30=false)(h:Pf C1 f args rs):Pf C3 f args rs:=jiz (C:=C1) (show(match Nat.beq f 30 with
  |true=>none
  |false=>some (j5T C1 f))=some (j5T C1 f) by rw[hf]) h
def encC(c:List UInt8×Tm):PV:=.ag (sv c.1::(encT c.2).cells)
def ju8{c:List UInt8×Tm}{v:PV}(h:LoP c v):LoP c (encC c):=by
 obtain⟨s,k,n,s1,b,z,xs,c2,y,ys,t,rfl,rfl,ht,hs⟩:=h.open;refine⟨(encT t).cells,rfl,?_,hs⟩;have hw:=ht.w;obtain⟨k,n,s,b,z,xs,c,y,ys,he⟩:=j06 t;unfold TmW at hw;rw[he] at hw⊢;exact hw
def jnE:∀{cs:List (List UInt8×Tm)}{xs:List PV},LosP cs xs→LosP cs (cs.map encC)
 |[],xs,h=>by simp only[CE,LosP]
 |c::r,xs,h=>by
  simp only[LosP] at h;obtain⟨v,xs',rfl,h1,h2⟩:=h;simp only[BC,LosP];exact⟨_,_,rfl,ju8 h1,jnE h2⟩
def jde(cs:List (List UInt8×Tm))(n:Nat):(cs.map encC).all (pur (n+2))=true:=by
 rw[AF]
 intro x hx;obtain⟨c,-,rfl⟩:=DC.1 hx;obtain⟨k,m,s,b,z,xs,d,y,ys,he⟩:=j06 c.2;unfold encC;rw[he];rfl
def cdS(x y:SO)(r:List PV):List PV→Sto
 |[]=>[x,y,.box 47 (r++[.sl true 0 []])]
 |v::q=>[x,y,.box 47 (r++[.ms 3 (q.length+1)]),.row false 125 6 (v::q)]
def jfz(d:Dc)(v:PV)(h:DcP d v)(wD:d.cs.length≤1000000):∃w,DcP d w∧Pf C3 30 [v] [w]:=by
 suffices key:Finds C3 30 [v] [] fun r _=>∃w,DcP d w∧r=.ret [w] by
  obtain⟨r,st',⟨w,h1,rfl⟩,N,hN⟩:=key;exact⟨w,h1,_,st',rfl,N,hN⟩
 obtain⟨k,p,nm,ty,vl,fx,cs,a1,a2,a3,a4,a5,a6,a7,a8,a9,b1,b2,b3,b4,b5,b6,b7,b8,b9,cb,cz,cx,wB,gB,hz,qB,hlen,qC,hk,hp,wC⟩:=h;have h1:=up3 rfl (j3m ty _ wB);have h2:=up3 rfl (j3m vl _ gB);have w1:=wB.w;have w2:=gB.w;obtain⟨e1,e2,e3,e4,e5,e6,e7,e8,e9,he⟩:=j06 ty;obtain⟨g1,g2,g3,g4,g5,g6,g7,g8,g9,hg⟩:=j06 vl;unfold TmW at w1 w2;rw[he] at h1 w1;rw[hg] at h2 w2;have kE:=qB.len;dsimp only at wD;refine gR Tryz.func30 ?_;repeat'(first|refine gU ?_|apply gE<;>intro h|apply gM<;>intro h|refine gX h1 ?_|refine gX h2 ?_|apply gK)<;>conv=>whnf
 refine j04 (G:=Nat) (fun i=>[(4,iv i)]) (fun i=>cdS (.box 47 [iv k,iv p,sv nm,iv a1,iv a2,sv a3,.sl a4 a5 a6,.sl a7 a8 a9,iv b1,iv b2,sv b3,.sl b4 b5 b6,.sl b7 b8 b9,iv fx,.sl cb cz cx]) (.box 47 [iv 0,iv 0,sv [],iv 0,iv 0,sv [],.sl true 0 [],.sl true 0 [],iv 0,iv 0,sv [],.sl true 0 [],.sl true 0 [],iv 0,.sl true 0 []]) [iv k,iv p,sv nm,iv e1,iv e2,sv e3,.sl e4 e5 e6,.sl e7 e8 e9,iv g1,iv g2,sv g3,.sl g4 g5 g6,.sl g7 g8 g9,iv fx] ((cs.take i).map encC)) (fun i=>i≤cs.length) (fun i=>cs.length-i) 0 (by omega) rfl rfl ?_
 intro i hi;have hA:∀(gC:i<cs.length),∃c t,cs[i]?=some (c,t)∧∃q1 q2 q3 q4 q5 q6 q7 q8 q9,cx[i]?=some (.ag [sv c,iv q1,iv q2,sv q3,.sl q4 q5 q6,.sl q7 q8 q9])∧Pf C3 81 [.ag [iv q1,iv q2,sv q3,.sl q4 q5 q6,.sl q7 q8 q9]] [encT t]:=fun gC=>by
  obtain⟨c,hc⟩:∃c,cs[i]?=some c:=⟨_,AA gC⟩;obtain⟨v,hv,hl⟩:=qB.at hc;obtain⟨s,q1,q2,q3,q4,q5,q6,q7,q8,q9,t,rfl,rfl,ht,-⟩:=hl.open;exact⟨s,t,hc,q1,q2,q3,q4,q5,q6,q7,q8,q9,hv,up3 rfl (j3m t _ ht)⟩
 have hB:∀{i:Nat},((i:Int)<cx.length)→i<cs.length:=fun h=>by omega
 cases i with
 |zero=>
  simp only[EC,CE,cdS,BY,BV];repeat'(first|refine gU ?_|apply gE<;>intro h|apply gM<;>intro h|apply gK)<;>conv=>whnf
  ·obtain⟨c,t,hc,q1,q2,q3,q4,q5,q6,q7,q8,q9,hv,qA⟩:=hA (hB (by assumption))
   obtain⟨m1,m2,m3,m4,m5,m6,m7,m8,m9,hm⟩:=j06 t;have e:(cs.take (0+1)).map encC=[.ag [sv c,iv m1,iv m2,sv m3,.sl m4 m5 m6,.sl m7 m8 m9]]:=by rw[take_snoc' hc,EC,BV,BC,encC,hm];rfl
   rw[hm] at qA;repeat'(first|refine gU ?_|apply gE<;>intro h|apply gM<;>intro h|refine VIdx.mk _ hv ?_|refine gZ hz ?_|refine gX qA ?_|refine j01 qA fun _=>?_|apply gK)<;>conv=>whnf
   have:=hB (i:=0) (by assumption)
   exact VAgain.mk _ rfl _ (j0B (.cons (j02 rfl rfl) (.cons (j02 rfl rfl) (.cons (j02 rfl rfl) (.cons (j05 rfl) .nil)))) (.cons (j02 rfl rfl) (.cons (j02 rfl rfl) (.cons (j02 rfl rfl) (.cons (j05 rfl) .nil)))) rfl rfl rfl rfl rfl) ⟨1,by omega,by omega,congrArg (AS.mk _) (by rw[e];rfl)⟩
  ·have gD:cs=[]:=AJ (by
    have h9:¬((0:Nat):Int)<cx.length:=by assumption
    omega)
   subst gD;exact⟨_,.mk k p nm ty vl fx [] e1 e2 e3 e4 e5 e6 e7 e8 e9 g1 g2 g3 g4 g5 g6 g7 g8 g9 true 0 [] w1 w2 (.inr rfl) (by simp only[LosP]) (by simp) qC hk hp wC,rfl⟩
 |succ i=>
  obtain⟨w0,wr,gA⟩:∃w0 wr,(cs.take (i+1)).map encC=w0::wr:=by
   cases hq:(cs.take (i+1)).map encC with
   |nil=>
    have:=congrArg List.length hq;simp only[AZ,ES,AG] at this;omega
   |cons a b=>exact⟨a,b,rfl⟩
  have hE:wr.length+1=i+1:=by
   have:=congrArg List.length gA;simp only[AZ,ES,AC] at this;omega
  have qD:(w0::wr).all (pur 6)=true:=by rw[←gA];exact jde _ 4
  simp only[gA,cdS,BY,BV];repeat'(first|refine gU ?_|apply gE<;>intro h|apply gM<;>intro h|apply gK)<;>conv=>whnf
  ·obtain⟨c,t,hc,q1,q2,q3,q4,q5,q6,q7,q8,q9,hv,qA⟩:=hA (hB (by assumption))
   obtain⟨m1,m2,m3,m4,m5,m6,m7,m8,m9,hm⟩:=j06 t;have e:(cs.take (i+1+1)).map encC=w0::wr++[.ag [sv c,iv m1,iv m2,sv m3,.sl m4 m5 m6,.sl m7 m8 m9]]:=by rw[take_snoc' hc,DQ,gA,BC,encC,hm];rfl
   have hC:(w0::wr++[PV.ag [sv c,iv m1,iv m2,sv m3,.sl m4 m5 m6,.sl m7 m8 m9]]).all (pur 8)=true:=by rw[←e];exact jde _ 6
   have hD:(w0::wr).length=wr.length+1:=rfl;rw[hm] at qA;repeat'(first|refine gU ?_|apply gE<;>intro h|apply gM<;>intro h|refine VIdx.mk _ hv ?_|refine gZ hz ?_|refine gX qA ?_|refine j01 qA fun _=>?_|refine VOk.mk (j0N (w:=96) (r:=140737488355328) hD rfl rfl rfl rfl (by simp only[AC,AG];omega) (by simp only[AC,AG];omega)) ?_|apply gK)<;>conv=>whnf
   have:=hB (i:=i+1) (by assumption)
   refine VAgain.mk _ rfl _ (j0B (.cons (j02 rfl rfl) (.cons (j02 rfl rfl) (.cons (j02 rfl rfl) (.cons (j05 hC) .nil)))) (.cons (j02 rfl rfl) (.cons (j02 rfl rfl) (.cons (j02 rfl rfl) (.cons (j05 hC) .nil)))) rfl rfl rfl rfl rfl) ⟨i+1+1,by omega,by omega,congrArg (AS.mk _) ?_⟩
   have e2:(wr++[PV.ag [sv c,iv m1,iv m2,sv m3,.sl m4 m5 m6,.sl m7 m8 m9]]).length+1=wr.length+1+1:=by simp
   rw[e];dsimp only[cdS,List.cons_append];rw[e2];rfl
  ·have wA:(cs.take (i+1)).map encC=cs.map encC:=by
    have h9:¬((i+1:Nat):Int)<cx.length:=by assumption
    rw[BR (by omega)]
   refine j0m rfl (j03 (j2V (j03 rfl (j03 rfl (j03 rfl (j03 rfl (j03 rfl (j03 rfl (j03 rfl (j03 rfl (j03 rfl (j03 rfl (j03 rfl (j03 rfl (j03 rfl (j03 rfl (j03 (j0p rfl rfl qD) j0h)))))))))))))))) j0h) rfl ?_;refine⟨_,.mk k p nm ty vl fx cs e1 e2 e3 e4 e5 e6 e7 e8 e9 g1 g2 g3 g4 g5 g6 g7 g8 g9 false 6 (w0::wr) w1 w2 (.inl rfl) ?_ hlen qC hk hp wC,rfl⟩;rw[←gA,wA];exact jnE qB
open Go Go.Am Go.Gw
def jgl(t:Tm):eqTm t t=true:=(jes t t).2 rfl
def DcP.parts{d:Dc}{v:PV}(h:DcP d v):∃(a1 a2:Int) (a3:List UInt8) (a4:Bool) (a5:Nat) (a6:List PV) (a7:Bool) (a8:Nat) (a9:List PV) (b1 b2:Int) (b3:List UInt8) (b4:Bool) (b5:Nat) (b6:List PV) (b7:Bool) (b8:Nat) (b9:List PV) (cb:Bool) (cz:Nat) (cx:List PV),
  v=.ag [iv d.k,iv d.p,sv d.nm,iv a1,iv a2,sv a3,.sl a4 a5 a6,.sl a7 a8 a9,iv b1,iv b2,sv b3,.sl b4 b5 b6,.sl b7 b8 b9,iv d.fx,.sl cb cz cx]∧TmP d.ty (.ag [iv a1,iv a2,sv a3,.sl a4 a5 a6,.sl a7 a8 a9])∧TmP d.vl (.ag [iv b1,iv b2,sv b3,.sl b4 b5 b6,.sl b7 b8 b9])∧(cz=6∨cx=[])∧LosP d.cs cx∧d.cs.length≤1466015503701:=by
 cases h;exact⟨_,_,_,_,_,_,_,_,_,_,_,_,_,_,_,_,_,_,_,_,_,rfl,by assumption,by assumption,by assumption,by assumption,by assumption⟩
def jha(d:Dc)(v w:PV)(h:DcP d v)(h':DcP d w):Pf C1 31 [v,w] [bv true]:=by
 obtain⟨a1,a2,a3,a4,a5,a6,a7,a8,a9,b1,b2,b3,b4,b5,b6,b7,b8,b9,cb,cz,cx,rfl,ht,hv,hz,qA,hlen⟩:=h.parts;obtain⟨a1',a2',a3',a4',a5',a6',a7',a8',a9',b1',b2',b3',b4',b5',b6',b7',b8',b9',cb',cz',cx',rfl,wB,gB,qB,hA,gA⟩:=h'.parts;have hD:=qA.len;have qC:=hA.len;have s1:=j2D d.ty _ ht d.ty _ wB;have s2:=j2D d.vl _ hv d.vl _ gB;rw[jgl] at s1 s2;refine gR Tryz.func31 ?_;repeat'(first|refine gU ?_|apply gE<;>intro h|apply gM<;>intro h|refine gX s1 ?_|refine gX s2 ?_|refine j1w ?_|apply gK)<;>conv=>whnf
 ·refine j04 (G:=Nat) (fun i=>[(5,iv i)]) (fun _=>_) (fun i=>i≤d.cs.length) (fun i=>d.cs.length-i) 0 (by omega) rfl rfl ?_
  rintro i hi;repeat'(first|refine gU ?_|apply gE<;>intro h|apply gM<;>intro h|apply gK)<;>conv=>whnf
  ·have hB:i<d.cs.length:=by omega
   obtain⟨lc,wA⟩:∃lc,d.cs[i]?=some lc:=⟨_,AA hB⟩;obtain⟨v,hv,hl⟩:=qA.at wA;obtain⟨w,hw,hm⟩:=hA.at wA;obtain⟨s0,k1,n1,s1',b'',z'',xs'',c'',y'',ys'',t',rfl,rfl,hT,wC⟩:=hl.open;obtain⟨s0',k1',n1',s1'',b3'',z3'',xs3'',c3'',y3'',ys3'',t'',e,rfl,gC,hC⟩:=hm.open;obtain⟨rfl,rfl⟩:=Prod.mk.inj e;have s3:=j2D t' _ hT t' _ gC;rw[jgl] at s3;repeat'(first|refine gU ?_|apply gE<;>intro h|apply gM<;>intro h|refine VIdx.mk _ hv ?_|refine VIdx.mk _ hw ?_|refine gZ hz ?_|refine gZ qB ?_|refine gX s3 ?_|refine j01 s3 fun _=>?_|refine j1w ?_|apply gK)<;>conv=>whnf
   ·exact VAgain.mk _ rfl _ (j0a rfl rfl rfl) ⟨i+1,hB,by omega,rfl⟩
   ·exact absurd h (by simp)
 all_goals(exfalso;first|omega|exact absurd h (by simp))

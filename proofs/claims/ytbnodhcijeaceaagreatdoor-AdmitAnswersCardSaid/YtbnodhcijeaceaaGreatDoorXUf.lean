/- Texts in a row. -/
import Derived.Test.YtbnodhcijeaceaaGreatDoorXLj
set_option linter.all false
set_option maxHeartbeats 2000000
set_option maxRecDepth 100000
namespace Go.Proofs.YtbnodhcijeaceaaGreatDoor
open Go Go.Am Go.Gw
variable{k n:Int}{ns:List (List UInt8)}{ls:List Lv}{ts us:List Tm}{s:List UInt8}{i j z:Nat}{a tc:Tm}
def j7Q{c:List UInt8}(h:ns[i]?=some c):(svs ns)[i]?=some (sv c):=by simp[svs,h]
def j6b(h:z=1∨ns=[]):z=1∨svs ns=[]:=by
 rcases h with rfl|rfl
 ·exact .inl rfl
 ·exact .inr rfl
def jeu(s:List UInt8):List (List UInt8)→Nat→Int
 |[],_=>-1
 |c::r,i=>if s=c then i else jeu s r (i+1)
def jgn(s:List UInt8):∀(ns:List (List UInt8)) (i:Nat),decide (0≤jeu s ns i)=decide (s∈ns)
 |[],i=>by simp[jeu]
 |c::r,i=>by
  rw[jeu]
  by_cases h:s=c
  ·rw[if_pos h];simp[h]
  ·rw[if_neg h,jgn s r (i+1)];simp[h]
def jqy(s:List UInt8)(ns:List (List UInt8))(b:Bool)(z:Nat)(hz:z=1∨ns=[])(wA:ns.length≤8796093022208):Pf C1 394 [.sl b z (svs ns),sv s] [iv (jeu s ns 0)]:=by
 have gA:(svs ns).length=ns.length:=by simp
 refine gR Tryz.func394 ?_;all_goals try conv=>whnf
 refine j04 (G:=Nat) (fun i=>[(8,iv i)]) (fun _=>_) (fun i=>i≤ns.length∧jeu s (ns.drop i) i=jeu s ns 0) (fun i=>ns.length-i) 0 ⟨by omega,rfl⟩ rfl rfl ?_
 rintro i ⟨hi,hA⟩;dsimp only at hi hA⊢;repeat'(first|refine gU ?_|apply gE<;>intro h)<;>conv=>whnf
 ·have qA:i<ns.length:=by omega
  obtain⟨c,hc⟩:∃c,ns[i]?=some c:=⟨_,AA qA⟩;rw[drop_at hc,jeu] at hA;repeat'(first|refine gU ?_|apply gM<;>intro h|refine VIdx.mk _ (j7Q hc) ?_|refine VOk.mk (j0z rfl (j6b hz)) ?_|refine j1w ?_)<;>conv=>whnf
  ·rw[if_pos (by simpa using h)] at hA
   rw[←hA]
  ·rw[if_neg (by simpa using h)] at hA
   exact VAgain.mk _ rfl _ (j0a rfl rfl rfl) ⟨i+1,⟨qA,hA⟩,by omega,rfl⟩
 ·rw[AV (by omega),jeu] at hA
  rw[←hA]
def jdZ(s:List UInt8)(ns:List (List UInt8))(b:Bool)(z:Nat)(hz:z=1∨ns=[])(hA:ns.length≤8796093022208):Pf C1 392 [.sl b z (svs ns),sv s] [bv (decide (s∈ns))]:=by
 have hi:=jqy s ns b z hz hA;have e:=jgn s ns 0;refine gR Tryz.func392 ?_;repeat'(first|refine gU ?_|refine gX hi ?_)<;>conv=>whnf
 rw[←e]
open Go Go.Am Go.Gw
def spF:Tm→Tm×List Tm
 | .mk k n s ls ts=>match ts with
  |[f,a]=>if k=4 then((spF f).1,a::(spF f).2) else(.mk k n s ls [f,a],[])
  |ts=>(.mk k n s ls ts,[])
def Turned(ts us:List Tm)(i:Nat):Prop:=us.length=ts.length∧∀j,j<ts.length→us[j]?=if j<i∨ts.length≤j+i then ts[ts.length-1-j]? else ts[j]?
def jry(ts:List Tm):Turned ts ts 0:=⟨rfl,fun j hj=>by rw[if_neg (by omega)]⟩
def jmt(h:Turned ts us i)(hi:ts.length≤2*i+1):us=ts.reverse:=by
 apply CU
 intro j;rcases DP j ts.length with hj|hj
 ·rw[h.2 j hj,List.getElem?_reverse hj];split
  ·rfl
  ·rw[show ts.length-1-j=j by omega]
 ·rw[ER (by rw[h.1];exact hj),ER (by simpa using hj)]
def jiW{b:Tm}(h:Turned ts us i)(hi:2*i+1<ts.length)(ha:us[i]?=some a)(hb:us[ts.length-1-i]?=some b):Turned ts ((us.set i b).set (ts.length-1-i) a) (i+1):=by
 obtain⟨hl,h⟩:=h;refine⟨by simp[hl],fun j hj=>?_⟩
 rw[h i (by omega),if_neg (by omega)] at ha
 rw[h _ (by omega),if_neg (by omega)] at hb
 rw[DZ,DZ]
 by_cases h1:ts.length-1-i=j
 ·rw[if_pos h1,if_pos (by simp[hl];omega),if_pos (by omega),←ha]
  congr 1
  omega
 ·rw[if_neg h1]
  by_cases h2:i=j
  ·subst h2;rw[if_pos rfl,if_pos (by simp[hl];omega),if_pos (by omega),←hb]
  ·rw[if_neg h2,h j hj]
   by_cases h3:j<i∨ts.length≤j+i
   ·rw[if_pos h3,if_pos (by omega)]
   ·rw[if_neg h3,if_neg (by omega)]
def jhy(ts:List Tm)(hl:ts.length≤1000000):Finds C1 222 [.ms 0 ts.length] [.row false 25 5 (ts.map encT)] fun r st=>r=.ret []∧st=[.row false 25 5 (ts.reverse.map encT)]:=by
 have hC:Nat.beq ts.length (ts.map encT).length=true:=by simp
 refine gR Tryz.func222 ?_;repeat'(first|refine gU ?_|refine VOk.mk hC ?_)<;>conv=>whnf
 refine j04 (G:=Nat×List Tm) (fun g=>[(2,iv g.1),(3,iv ((ts.length:Int)-1-g.1))]) (fun g=>[.row false 25 5 (g.2.map encT)]) (fun g=>2*g.1≤ts.length∧Turned ts g.2 g.1) (fun g=>ts.length-g.1) (0,ts) ⟨by omega,jry ts⟩ (by rw[show((ts.length:Int)-1-((0:Nat):Int))=ts.length-1 by omega];rfl) rfl ?_
 rintro⟨i,us⟩ ⟨hi,ht⟩;dsimp only at hi ht⊢;have hA:us.length=ts.length:=ht.1;repeat'(first|apply gE<;>intro h)<;>conv=>whnf
 ·have wB:2*i+1<ts.length:=by omega
  obtain⟨a,ha⟩:∃a,us[i]?=some a:=⟨_,AA (by omega)⟩
  obtain⟨c,hc⟩:∃c,us[ts.length-1-i]?=some c:=⟨_,AA (by omega)⟩
  have qB:(us.map encT)[i]?=some (encT a):=by rw[BA,ha];rfl
  have gA:(us.map encT)[ts.length-1-i]?=some (encT c):=by rw[BA,hc];rfl
  have hn:=jiW ht wB ha hc;obtain⟨k1,n1,s1,b1,z1,x1,c1,y1,ys1,hB⟩:=j06 a;obtain⟨k2,n2,s2,b2,z2,x2,c2,y2,ys2,wA⟩:=j06 c;rw[hB] at qB;rw[wA] at gA;have o1:(Nat.beq ts.length (us.map encT).length&&Nat.blt (ts.length-1-i) ts.length&&Nat.beq 5 5)=true:=by simp[hA,BW];omega
  have o2:(Nat.beq ts.length (us.map encT).length&&Nat.blt i ts.length&&Nat.beq 5 5)=true:=by simp[hA,BW];omega
  have gB:Nat.beq ts.length (us.map encT).length=true:=by simp[hA]
  have o3:∀e:PV,(Nat.beq ts.length ((us.map encT).set i e).length&&Nat.blt (ts.length-1-i) ts.length&&Nat.beq 5 5)=true:=fun e=>by simp[hA,BW];omega
  have o4:∀e:PV,Nat.beq ts.length ((us.map encT).set i e).length=true:=fun e=>by simp[hA]
  have qA:∀e:PV,((us.map encT).set i e)[ts.length-1-i]?=some (.ag [iv k2,iv n2,sv s2,.sl b2 z2 x2,.sl c2 y2 ys2]):=fun e=>by rw[CJ (by omega)];exact gA
  repeat'(first|refine gU ?_|refine VOk.mk gB ?_|refine VOk.mk (o3 _) ?_|refine VOk.mk (o4 _) ?_|refine VIdx.mk _ (qA _) ?_|refine VNat.mk (ts.length-1-i) (show((ts.length:Int)-1-i)=((ts.length-1-i:Nat):Int) by omega) ?_|refine VOk.mk o1 ?_|refine VOk.mk o2 ?_|refine VIdx.mk _ qB ?_|refine VIdx.mk _ gA ?_)<;>conv=>whnf
  refine VAgain.mk _ rfl _ (j1a rfl) ⟨(i+1,(us.set i c).set (ts.length-1-i) a),⟨by dsimp only;omega,hn⟩,by dsimp only;omega,?_⟩
  dsimp only;rw[FW,FW,hB,wA,show((ts.length:Int)-1-((i+1:Nat):Int))=ts.length-1-i-1 by omega]
  rfl
 ·obtain rfl:=jmt ht (by omega)
  exact j1h rfl rfl (.cons (j0o (j0D _ 6)) .nil) rfl ⟨rfl,rfl⟩
def jcR:Pf C1 222 [.sl true 0 []] []:=jp4 (st':=[]) 20 (by kernel_rfl)
def jfk{f:Tm}:spF (.mk 4 n s ls [f,a])=((spF f).1,a::(spF f).2):=by
 rw[spF,if_pos rfl]
def jfl(h:¬(k=4∧ts.length=2)):spF (.mk k n s ls ts)=(.mk k n s ls ts,[]):=by
 unfold spF;split
 ·rw[if_neg (fun e=>h ⟨e,rfl⟩)]
 ·rfl
def j1i(t:Tm):List Tm:=(spF t).2.reverse
def spS(z:List PV)(g:List Tm×Tm×PV):Sto:=match g.1 with
 |[]=>[.box 25 g.2.2.cells,.box 25 z]
 |a::r=>[.box 25 g.2.2.cells,.box 25 z,.row false 25 5 ((a::r).map encT)]
def jb4(t:Tm)(v:PV)(hT:TmP t v)(wE:(spF t).2.length≤2000):Pf C1 168 [v] [encT (spF t).1,j8y (j1i t)]:=by
 obtain⟨k0,nn0,s0,ls0,ts0,b0,z0,xs0,c0,y0,ys0,rfl,rfl,-⟩:=hT.open;refine gR Tryz.func168 ?_;all_goals try conv=>whnf
 refine j04 (G:=List Tm×Tm×PV) (fun g=>[(4,match g.1 with
    |[]=>.sl true 0 []
    |a::r=>.ms 2 (r.length+1))]) (spS zTm) (fun g=>TmP g.2.1 g.2.2∧(spF g.2.1).1=(spF (.mk k0 nn0 s0 ls0 ts0)).1∧g.1++(spF g.2.1).2=(spF (.mk k0 nn0 s0 ls0 ts0)).2) (fun g=>sizT g.2.1) ([],.mk k0 nn0 s0 ls0 ts0,.ag [iv k0,iv nn0,sv s0,.sl b0 z0 xs0,.sl c0 y0 ys0]) ⟨hT,rfl,rfl⟩ rfl rfl ?_
 rintro⟨don,u,w⟩ ⟨hu,hh,ha⟩;dsimp only at hu hh ha;have wC:=j3u u w hu;obtain⟨k9,n9,s9,b9,z9,x9,c9,y9,ys9,hD⟩:=j06 u;have hlen:don.length+(spF u).2.length≤2000:=by rw[←AL,ha];exact wE
 rw[hD] at wC;obtain⟨k,nn,s,ls,ts,b,z,xs,c,y,ys,rfl,rfl,hz,hF,wD,qE,hy,gB,hlen2,kE,kF⟩:=hu.open;have hA:k=4→ts.length=2→∃f a,ts=[f,a]∧(spF f).1=(spF (.mk k0 nn0 s0 ls0 ts0)).1∧(don++[a])++(spF f).2=(spF (.mk k0 nn0 s0 ls0 ts0)).2∧don.length+1≤2000:=by
  rintro rfl h2;match ts,h2 with
  |[f,a],_=>
   rw[jfk] at hh ha hlen;refine⟨f,a,rfl,hh,?_,?_⟩
   ·rw[BZ];exact ha
   ·simp only[AC] at hlen;omega
 have hB:¬(k=4∧ts.length=2)→(spF (.mk k0 nn0 s0 ls0 ts0)).1=.mk k nn s ls ts∧(spF (.mk k0 nn0 s0 ls0 ts0)).2=don:=fun h=>by
  rw[jfl h] at hh ha;exact⟨hh.symm,by simpa using ha.symm⟩
 cases don with
 |nil=>
  simp only[PV.cells,spS];repeat'(first|refine gU ?_|apply gE<;>intro h|refine gX wC ?_|refine gX jcR ?_)<;>conv=>whnf
  ·obtain⟨f1,a1,rfl,gC,qD,qC⟩:=hA (by assumption) (by omega)
   obtain⟨va,hC,wA⟩:=gB.at (by rfl:[f1,a1][1]?=some a1)
   obtain⟨vb,wB,gA⟩:=gB.at (by rfl:[f1,a1][0]?=some f1)
   have qB:=j3u a1 va wA;obtain⟨k3,n3,s3,b3,z3,x3,c3,y3,ys3,qA⟩:=j06 a1;rw[qA] at qB;obtain⟨k1,n1,s1,l1,t1,b4,z1,x1,c1,y1,ys1,rfl,rfl,-⟩:=wA.open;obtain⟨k2,n2,s2,l2,t2,b5,z2,x2,c2,y2,ys2,rfl,rfl,-⟩:=gA.open;repeat'(first|refine gU ?_|refine VIdx.mk _ hC ?_|refine VIdx.mk _ wB ?_|refine gZ hy ?_|refine gX qB ?_)<;>conv=>whnf
   have e:[Tm.mk k1 n1 s1 l1 t1].map encT=[.ag [iv k3,iv n3,sv s3,.sl b3 z3 x3,.sl c3 y3 ys3]]:=by rw[BC,qA];rfl
   exact VAgain.mk _ rfl _ (j0B (.cons (j02 rfl rfl) (.cons (j02 rfl rfl) (.cons (j05 rfl) .nil))) (.cons (j02 rfl rfl) (.cons (j02 rfl rfl) (.cons (j05 rfl) .nil))) rfl rfl rfl rfl rfl) ⟨([Tm.mk k1 n1 s1 l1 t1],Tm.mk k2 n2 s2 l2 t2,.ag [iv k2,iv n2,sv s2,.sl b5 z2 x2,.sl c2 y2 ys2]),⟨gA,gC,qD⟩,by simp only[sizT,j0x];omega,by dsimp only[spS];rw[e];rfl⟩
  all_goals
   obtain⟨e1,e2⟩:=hB (by omega)
   have e3:j1i (.mk k0 nn0 s0 ls0 ts0)=[]:=by rw[j1i,e2];rfl
   rw[e1,e3,hD];rfl
 |cons d dr=>
  simp only[PV.cells,spS];have qF:Nat.beq (dr.length+1) ((d::dr).map encT).length=true:=by simp
  have hE:=jhy (d::dr) (by simp only[AC] at hlen⊢;omega)
  repeat'(first|refine gU ?_|apply gE<;>intro h)<;>conv=>whnf
  ·obtain⟨f1,a1,rfl,gC,qD,qC⟩:=hA (by assumption) (by omega)
   obtain⟨va,hC,wA⟩:=gB.at (by rfl:[f1,a1][1]?=some a1)
   obtain⟨vb,wB,gA⟩:=gB.at (by rfl:[f1,a1][0]?=some f1)
   have qB:=j3u a1 va wA;obtain⟨k3,n3,s3,b3,z3,x3,c3,y3,ys3,qA⟩:=j06 a1;rw[qA] at qB;obtain⟨k1,n1,s1,l1,t1,b4,z1,x1,c1,y1,ys1,rfl,rfl,-⟩:=wA.open;obtain⟨k2,n2,s2,l2,t2,b5,z2,x2,c2,y2,ys2,rfl,rfl,-⟩:=gA.open;have gD:((d::dr).map encT++[PV.ag [iv k3,iv n3,sv s3,.sl b3 z3 x3,.sl c3 y3 ys3]]).all (pur 8)=true:=by
    rw[←qA,show(d::dr).map encT++[encT (Tm.mk k1 n1 s1 l1 t1)]=(d::dr++[Tm.mk k1 n1 s1 l1 t1]).map encT by simp]
    exact j0D _ 6
   repeat'(first|refine gU ?_|refine VIdx.mk _ hC ?_|refine VIdx.mk _ wB ?_|refine gZ hy ?_|refine gX qB ?_|refine VOk.mk (j0N (w:=80) (r:=140737488355328) (by simp:((d::dr).map encT).length=dr.length+1) rfl rfl rfl rfl (by simp only[AC,AG] at qC⊢;omega) (by simp only[AC,AG] at qC⊢;omega)) ?_)<;>conv=>whnf
   have e:(d::(dr++[Tm.mk k1 n1 s1 l1 t1])).map encT=(d::dr).map encT++[.ag [iv k3,iv n3,sv s3,.sl b3 z3 x3,.sl c3 y3 ys3]]:=by rw[←qA];simp
   have el:(dr++[Tm.mk k1 n1 s1 l1 t1]).length+1=dr.length+1+1:=by simp
   refine VAgain.mk _ rfl _ (j0B (.cons (j02 rfl rfl) (.cons (j02 rfl rfl) (.cons (j05 gD) .nil))) (.cons (j02 rfl rfl) (.cons (j02 rfl rfl) (.cons (j05 gD) .nil))) rfl rfl rfl rfl rfl) ⟨(d::(dr++[Tm.mk k1 n1 s1 l1 t1]),Tm.mk k2 n2 s2 l2 t2,.ag [iv k2,iv n2,sv s2,.sl b5 z2 x2,.sl c2 y2 ys2]),⟨gA,gC,?_⟩,by simp only[sizT,j0x];omega,?_⟩
   ·exact qD
   ·dsimp only[spS];rw[e,el];rfl
  all_goals
   obtain⟨e1,e2⟩:=hB (by omega)
   have e3:j1i (.mk k0 nn0 s0 ls0 ts0)=(d::dr).reverse:=by rw[j1i,e2]
   refine j1e rfl rfl (.cons (j07 rfl rfl) (.cons (j07 rfl rfl) (.cons (j0o (j0D _ 6)) .nil))) rfl rfl rfl rfl (Finds.mono hE ?_);rintro _ _ ⟨rfl,rfl⟩;refine j4w (.cons (j0o (j0D _ 6)) .nil) rfl ?_;repeat'(first|refine gU ?_|refine gX wC ?_)<;>conv=>whnf
   refine j0m rfl (j03 rfl (j03 (j0p rfl (by simp) (j0D _ 4)) j0h)) rfl ?_
   rw[e1,e3,hD,j1V (by simp)]
   try rfl
open Go Go.Am Go.Gw
def jtU:PV:=.fn 200 [] []
def jvf:PV:=.fn 144 [] []
def jbr(ls ls':List Lv)(gA:∀l∈ls,∀v,LvP l v→∀m w,LvP m w→Pf C1 200 [v,w] [bv (eqLv l m)])(b b':Bool)(z z':Nat)(xs xs':List PV)(hz:z=3∨xs=[])(gC:z'=3∨xs'=[])(hB:LvsP ls xs)(qA:LvsP ls' xs')(wE:ls.length≤3518437208780)(hE:ls'.length≤3518437208780):
  Pf C1 199 [.sl b z xs,.sl b' z' xs',jtU] [bv (decide (ls.length=ls'.length)&&j5I ls ls')]:=by
 have hlen:=hB.len;have wB:=qA.len;refine gR Tryz.func199 ?_;repeat'(first|refine gU ?_|apply gE<;>intro h)<;>conv=>whnf
 ·have qD:ls.length=ls'.length:=by omega
  refine j04 (G:=Nat) (fun i=>[(17,iv i)]) (fun _=>_) (fun i=>i≤ls.length∧j5I (ls.drop i) (ls'.drop i)=j5I ls ls') (fun i=>ls.length-i) 0 ⟨by omega,rfl⟩ rfl rfl ?_
  rintro i ⟨hi,hA⟩;repeat'(first|refine gU ?_|apply gE<;>intro h)<;>conv=>whnf
  ·have qC:i<ls.length:=by omega
   obtain⟨lc,wA⟩:∃lc,ls[i]?=some lc:=⟨_,AA qC⟩;obtain⟨mc,qB⟩:∃mc,ls'[i]?=some mc:=⟨_,AA (by omega)⟩
   obtain⟨v,hv,hl⟩:=hB.at wA;obtain⟨w,hw,hC⟩:=qA.at qB;have hr:=gA _ (AE wA) _ hl _ _ hC;obtain⟨k1,n1,l1,b1,z1,x1,rfl,rfl,qE,hD,gB,wD⟩:=hl.open;obtain⟨k2,n2,l2,b2,z2,x2,rfl,rfl,kE,wC,hlen2,gD⟩:=hC.open;rw[drop_at wA,drop_at qB] at hA;simp only[j5I] at hA;repeat'(first|refine gU ?_|apply gM<;>intro h|refine VIdx.mk _ hv ?_|refine gZ hz ?_|refine VIdx.mk _ hw ?_|refine gZ gC ?_|refine gX hr ?_)<;>conv=>whnf
   ·refine VAgain.mk _ rfl _ (j0a rfl rfl rfl) ⟨i+1,⟨qC,?_⟩,by omega,rfl⟩
    rw[←hA]
    simp_all
   ·rw[←hA]
    simp_all
  ·have:i=ls.length:=by omega
   subst this;rw[BU] at hA;rw[←hA,decide_eq_true qD];rfl
 ·rw[decide_eq_false (by omega)]
  rfl
def jmV(l:Lv):∀v,LvP l v→∀m w,LvP m w→Pf C1 200 [v,w] [bv (eqLv l m)]:=by
 induction l using Lv.ind with
 |_ k n ls ih=>
 intro v h m w hm;obtain⟨_,_,_,b,z,xs,⟨rfl,rfl,rfl⟩,rfl,hz,wA,hlen,qB⟩:=h.open;obtain⟨k',n',ls',b',z',xs',rfl,rfl,gA,hA,qA,hB⟩:=hm.open;have he:=jbr ls ls' ih b b' z z' xs xs' hz gA wA hA (by omega) (by omega)
 refine gR Tryz.func200 ?_;repeat'(first|refine gU ?_|apply gE<;>intro h|refine gX he ?_)<;>conv=>whnf
 all_goals simp_all[eqLv,retV]
def ji1(ts ts':List Tm)(gA:∀l∈ts,∀v,TmP l v→∀m w,TmP m w→Pf C1 144 [v,w] [bv (eqTm l m)])(b b':Bool)(z z':Nat)(xs xs':List PV)(hz:z=5∨xs=[])(qC:z'=5∨xs'=[])(hB:TmsP ts xs)(qA:TmsP ts' xs')(hD:ts.length≤1759218604441)(wC:ts'.length≤1759218604441):
  Pf C1 201 [.sl b z xs,.sl b' z' xs',jvf] [bv (decide (ts.length=ts'.length)&&j9B ts ts')]:=by
 have hlen:=hB.len;have gB:=qA.len;refine gR Tryz.func201 ?_;repeat'(first|refine gU ?_|apply gE<;>intro h)<;>conv=>whnf
 ·have gC:ts.length=ts'.length:=by omega
  refine j04 (G:=Nat) (fun i=>[(17,iv i)]) (fun _=>_) (fun i=>i≤ts.length∧j9B (ts.drop i) (ts'.drop i)=j9B ts ts') (fun i=>ts.length-i) 0 ⟨by omega,rfl⟩ rfl rfl ?_
  rintro i ⟨hi,hA⟩;repeat'(first|refine gU ?_|apply gE<;>intro h)<;>conv=>whnf
  ·have hC:i<ts.length:=by omega
   obtain⟨lc,wA⟩:∃lc,ts[i]?=some lc:=⟨_,AA hC⟩;obtain⟨mc,qB⟩:∃mc,ts'[i]?=some mc:=⟨_,AA (by omega)⟩
   obtain⟨v,hv,hl⟩:=hB.at wA;obtain⟨w,hw,wB⟩:=qA.at qB;have hr:=gA _ (AE wA) _ hl _ _ wB;obtain⟨k1,n1,s1,l1,t1,b1,z1,x1,c1,y1,ys1,rfl,rfl,-⟩:=hl.open;obtain⟨k2,n2,s2,l2,t2,b2,z2,x2,c2,y2,ys2,rfl,rfl,-⟩:=wB.open;rw[drop_at wA,drop_at qB] at hA;simp only[j9B] at hA;repeat'(first|refine gU ?_|apply gM<;>intro h|refine VIdx.mk _ hv ?_|refine gZ hz ?_|refine VIdx.mk _ hw ?_|refine gZ qC ?_|refine gX hr ?_)<;>conv=>whnf
   ·refine VAgain.mk _ rfl _ (j0a rfl rfl rfl) ⟨i+1,⟨hC,?_⟩,by omega,rfl⟩
    rw[←hA]
    simp_all
   ·rw[←hA]
    simp_all
  ·have:i=ts.length:=by omega
   subst this;rw[BU] at hA;rw[←hA,decide_eq_true gC];rfl
 ·rw[decide_eq_false (by omega)]
  rfl
def j8l(t:Tm):∀v,TmP t v→∀m w,TmP m w→Pf C1 144 [v,w] [bv (eqTm t m)]:=by
 induction t using Tm.ind with
 |_ k n s ls ts ih=>
 intro v h m w hm;obtain⟨_,_,_,_,_,b,z,xs,c,y,ys,⟨rfl,rfl,rfl,rfl,rfl⟩,rfl,hz,hC,hlen,qD,hy,gB,hlen2,gC,hD⟩:=h.open;obtain⟨k',n',s',ls',ts',b',z',xs',c',y',ys',rfl,rfl,qB,qA,wA,wC,wB,hA,gA,hB,qC⟩:=hm.open;have he:=jbr ls ls' (fun l _=>jmV l) b b' z z' xs xs' hz qB hC qA (by omega) (by omega)
 have hf:=ji1 ts ts' ih c c' y y' ys ys' hy wB gB hA (by omega) (by omega)
 refine gR Tryz.func144 ?_;repeat'(first|refine gU ?_|apply gE<;>intro h|apply gM<;>intro h|refine j1w ?_|refine gX he ?_|refine gX hf ?_)<;>conv=>whnf
 all_goals simp_all[eqTm,retV]
open Go Go.Am Go.Gw
def valP(b:Bool)(z:Nat)(xs:List PV):PV:=.fn 280 [] [.cp [.sl b z xs]]
def jkK(b:Bool)(z:Nat)(xs:List PV):Pf C1 241 [.sl b z xs] [valP b z xs]:=by
 refine gR Tryz.func241 ?_;repeat'(first|refine gU ?_|apply gE<;>intro h|apply gM<;>intro h|apply gK)<;>conv=>whnf
 refine j0m rfl rfl rfl ?_;rfl
def apLP(b:Bool)(z:Nat)(xs:List PV)(a c:Code)(x:LpS):SO:=.lp [(6,valP b z xs),(4,.sl true 0 []),(2,.bp 1 0),(0,.sl true 0 []),(1,valP b z xs)] [7] a c x
def apS(lp:SO)(don:List (List UInt8)):Sto:=match don with
 |[]=>[lp,.box 49 [.sl true 0 []]]
 |d::r=>[lp,.box 49 [.ms 2 (r.length+1)],.row false 9 1 (svs (d::r))]
def jq8(lp:SO)(d:List UInt8)(r:List (List UInt8))(s:List UInt8):apS lp (d::r++[s])=[lp,.box 49 [.ms 2 (r.length+1+1)],.row false 9 1 (svs (d::r)++[sv s])]:=by
 simp only[apS,BY,AL,AC,AG,svs,BC,DQ,CE]
def ApOk(lp:SO):Prop:=∀(don:List (List UInt8)) (s:List UInt8),don.length≤1000000000→FindsY C1 [.yl 0,sv s] (apS lp don) fun r st=>r=.ret [bv true]∧st=apS lp (don++[s])
def jrN{b:Bool}{xs:List PV}{a c:Code}(hY:ApOk (apLP b z xs a c .ready))(don:List (List UInt8))(s:List UInt8)(hd:don.length≤1000000000){K:AR→Prop}(k:K (.val (bv true) (apS (apLP b z xs a c .ready) (don++[s])))):VYield C1 0 [sv s] (apS (apLP b z xs a c .ready) don) K:=by
 cases don with
 |nil=>
  refine j3k (st1:=apS (apLP b z xs a c .ready) []) rfl (.cons (j0Q rfl rfl) (.cons (j07 rfl rfl) .nil)) rfl rfl rfl rfl (j1W (hY [] s hd) ?_);rintro _ _ ⟨rfl,rfl⟩;exact j1A (.cons (j0Q rfl rfl) (.cons (j07 rfl rfl) (.cons (j0o rfl) .nil))) rfl k
 |cons d r=>
  refine j3k (st1:=apS (apLP b z xs a c .ready) (d::r)) rfl (.cons (j0Q rfl rfl) (.cons (j07 rfl rfl) (.cons (j0o (j09 _)) .nil))) rfl rfl rfl rfl (j1W (hY (d::r) s hd) ?_);rintro _ _ ⟨rfl,rfl⟩;exact j1A (.cons (j0Q rfl rfl) (.cons (j07 rfl rfl) (.cons (j0o (j09 _)) .nil))) rfl k
def jiZ(b:Bool)(z:Nat)(l:List (List UInt8))(hz:z=1∨l=[])(hl:l.length≤1000000000)(a c:Code)(hY:ApOk (apLP b z (svs l) a c .ready)):Finds C1 280 [.yl 0,.cp [.sl b z (svs l)]] (apS (apLP b z (svs l) a c .ready) []) fun r st=>r=.ret []∧st=apS (apLP b z (svs l) a c .ready) l:=by
 have qA:(svs l).length=l.length:=by simp
 refine gR Tryz.func280 ?_;repeat'(first|refine gU ?_|apply gE<;>intro h|apply gM<;>intro h|apply gK)<;>conv=>whnf
 refine j04 (G:=Nat) (fun i=>[(7,iv i)]) (fun i=>apS (apLP b z (svs l) a c .ready) (l.take i)) (fun i=>i≤l.length) (fun i=>l.length-i) 0 (by omega) rfl rfl ?_
 intro i hi;repeat'(first|refine gU ?_|apply gE<;>intro h|apply gM<;>intro h|apply gK)<;>conv=>whnf
 ·have hA:i<l.length:=by omega
  obtain⟨s,hs⟩:∃s,l[i]?=some s:=⟨_,AA hA⟩;repeat'(first|refine gU ?_|apply gE<;>intro h|apply gM<;>intro h|refine VIdx.mk _ (j7Q hs) ?_|refine VOk.mk (j0z rfl (j6b hz)) ?_|apply gK)<;>conv=>whnf
  refine jrN hY _ s (by simp;omega) ?_
  repeat'(first|refine gU ?_|apply gE<;>intro h|apply gM<;>intro h|apply gK)<;>conv=>whnf
  have e:l.take i++[s]=l.take (i+1):=(take_snoc' hs).symm;refine VAgain.mk _ rfl (apS (apLP b z (svs l) a c .ready) (l.take (i+1))) ?_ ⟨i+1,hA,by omega,rfl⟩
  rw[e];generalize l.take (i+1)=don;cases don with
  |nil=>exact j1a rfl
  |cons d r=>exact j0B (.cons (j6a rfl rfl) (.cons (j02 rfl rfl) (.cons (j05 (j09 _)) .nil))) (.cons (j6a rfl rfl) (.cons (j02 rfl rfl) (.cons (j05 (j09 _)) .nil))) rfl rfl rfl rfl rfl
 ·have e:l.take i=l:=BR (by omega)
  show VRet C1 _ _ _ (apS (apLP b z (svs l) a c .ready) (l.take i)) _
  rw[e];generalize svs l=xs at *;cases l with
  |nil=>exact vret_take rfl rfl ⟨rfl,rfl⟩
  |cons d r=>exact j1g (.inr ⟨rfl,rfl⟩) rfl (j0B (.cons (j6a rfl rfl) (.cons (j02 rfl rfl) (.cons (j05 (j09 _)) .nil))) (.cons (j6a rfl rfl) (.cons (j02 rfl rfl) (.cons (j05 (j09 _)) .nil))) rfl rfl rfl rfl rfl) (j0L rfl) ⟨rfl,rfl⟩
def rowV(l:List (List UInt8)):PV:=match l with
 |[]=>.sl true 0 []
 |_::q=>.ms 0 (q.length+1)
def rowT(l:List (List UInt8)):Sto:=match l with
 |[]=>[]
 |d::q=>[.row false 9 1 (svs (d::q))]
def jdW(b:Bool)(z:Nat)(l:List (List UInt8))(hz:z=1∨l=[])(hl:l.length≤1000000000):Finds C1 314 [.sl true 0 [],valP b z (svs l)] [] fun r st=>r=.ret [rowV l]∧st=rowT l:=by
 refine gR Tryz.func314 ?_;repeat'(first|refine gU ?_|apply gE<;>intro h|apply gM<;>intro h|apply gK)<;>conv=>whnf
 refine j1e rfl rfl (.cons (j07 rfl rfl) (.cons (j0Q rfl rfl) .nil)) rfl rfl rfl rfl (Finds.mono (jiZ b z l hz hl _ _ ?_) ?_)
 ·intro don s hd;cases don with
  |nil=>
   refine j2d rfl rfl ?_;repeat'(first|refine gU ?_|apply gE<;>intro h|apply gM<;>intro h|apply gK)<;>conv=>whnf
   exact⟨rfl,by kernel_rfl⟩
  |cons d r=>
   have qA:(svs (d::r)).length=r.length+1:=by simp
   have hA:(svs (d::r)++[sv s]).all (pur 8)=true:=by
    rw[show svs (d::r)++[sv s]=svs (d::r++[s]) by simp[svs]]
    exact j09 _
   simp only[AC] at hd;refine j2d rfl rfl ?_;repeat'(first|refine gU ?_|apply gE<;>intro h|apply gM<;>intro h|refine VOk.mk (j0N (w:=16) (r:=140737488355328) qA rfl rfl rfl rfl (by simp only[AC,AG];omega) (by simp only[AC,AG];omega)) ?_|apply gK)<;>conv=>whnf
   rw[jq8];exact⟨rfl,j6g rfl (.cons (j0Q rfl rfl) (.cons (j07 rfl rfl) (.cons (j0o hA) .nil))) rfl⟩
 ·rintro _ _ ⟨rfl,rfl⟩;cases l with
  |nil=>
   refine j1A (.cons (j0Q rfl rfl) (.cons (j07 rfl rfl) .nil)) rfl ?_;repeat'(first|refine gU ?_|apply gE<;>intro h|apply gM<;>intro h|apply gK)<;>conv=>whnf
   exact⟨rfl,rfl⟩
  |cons d q=>
   refine j1A (.cons (j0Q rfl rfl) (.cons (j07 rfl rfl) (.cons (j0o (j09 _)) .nil))) rfl ?_;repeat'(first|refine gU ?_|apply gE<;>intro h|apply gM<;>intro h|apply gK)<;>conv=>whnf
   exact j1g (.inl ⟨rfl,rfl,rfl⟩) rfl (j0B (.cons (j02 rfl rfl) (.cons j0l (.cons (j05 (j09 _)) .nil))) (.cons j0l (.cons j0l (.cons (j05 (j09 _)) .nil))) rfl rfl rfl rfl rfl) (j2a (.cons j2i (.cons j2i (.cons (j0o (j09 _)) .nil))) rfl rfl rfl rfl) ⟨rfl,rfl⟩
def jht(b:Bool)(z:Nat)(l:List (List UInt8))(hz:z=1∨l=[])(hl:l.length≤1000000000):Finds C1 278 [valP b z (svs l)] [] fun r st=>r=.ret [rowV l]∧st=rowT l:=by
 have ha:=jdW b z l hz hl;refine gR Tryz.func278 ?_;repeat'(first|refine gU ?_|apply gE<;>intro h|apply gM<;>intro h|apply gK)<;>conv=>whnf
 cases l with
 |nil=>
  refine j3j rfl (Finds.mono ha ?_);rintro _ _ ⟨rfl,rfl⟩;refine⟨rfl,?_⟩;repeat'(first|refine gU ?_|apply gE<;>intro h|apply gM<;>intro h|apply gK)<;>conv=>whnf
  exact⟨rfl,rfl⟩
 |cons d q=>
  refine j1d rfl (Finds.mono ha ?_);rintro _ _ ⟨rfl,rfl⟩;refine⟨rfl,j1A (.cons (j0o (j09 _)) .nil) rfl ?_⟩;repeat'(first|refine gU ?_|apply gE<;>intro h|apply gM<;>intro h|apply gK)<;>conv=>whnf
  exact j1g (.inl ⟨rfl,rfl,rfl⟩) rfl (j0B (.cons (j05 (j09 _)) .nil) (.cons (j05 (j09 _)) .nil) rfl rfl rfl rfl rfl) (j0L rfl) ⟨rfl,rfl⟩
def jpz(l:List (List UInt8)):mapO Go.Am.strOf (svs l)=some (l.map fun s=>(⟨s.toArray⟩:ByteArray)):=by
 induction l with
 |nil=>rfl
 |cons s r ih=>simp only[svs,BC,mapO,Go.Am.strOf] at *;rw[ih]
def jtX(l:List (List UInt8)):(l.map fun s=>(⟨s.toArray⟩:ByteArray)).map bl=l:=by
 rw[FX];exact(DL fun s _=>by simp[bl]).trans (GM l)
def jsm(l:List (List UInt8)):svL l=svs l:=rfl
def jtC(d:List UInt8)(q:List (List UInt8))(hl:(d::q).length≤1000000000):Finds C1 279 [.ms 0 (q.length+1)] [.row false 9 1 (svs (d::q))] fun r st=>r=.ret []∧st=[.row false 9 1 (svs (j3i (d::q)))]:=by
 refine j8B (F:=jmn) rfl ?_ ⟨rfl,rfl⟩;have h1:=jpz (d::q);have h2:((Nat.beq (q.length+1) ((d::q).map fun s=>(⟨s.toArray⟩:ByteArray)).length && !Hb.markT 9)&&Nat.ble (q.length+1) 1000000000)=true:=by
  rw[AZ,AC,DG,BN (by simpa using hl)]
  rfl
 simp only[jmn,h1,h2,jtX,jsm]
def jsO(d:List UInt8)(q:List (List UInt8))(hl:(d::q).length≤1000000000):Finds C1 239 [.ms 0 (q.length+1)] [.row false 9 1 (svs (d::q))] fun r st=>r=.ret [.ms 1 (j5D (d::q)).length]∧st=[.dead,.row false 9 1 (svs (j5D (d::q)))]:=by
 refine j8B (F:=jl0) rfl ?_ ⟨rfl,rfl⟩;have h1:=jpz (d::q);have h2:((Nat.beq (q.length+1) ((d::q).map fun s=>(⟨s.toArray⟩:ByteArray)).length && !Hb.markT 9)&&(Nat.ble (q.length+1) 1000000000&&Nat.ble 1 (q.length+1)))=true:=by
  rw[AZ,AC,DG,BN (by simpa using hl),BN (by omega)]
  rfl
 simp only[jl0,h1,h2,jtX,jsm]
def jkJ(b:Bool)(z:Nat)(l:List (List UInt8))(hz:z=1∨l=[])(hl:l.length≤1000000000):Finds C1 240 [valP b z (svs l)] [] fun r st=>r=.ret [rowV (j3i l)]∧st=rowT (j3i l):=by
 have ha:=jht b z l hz hl;refine gR Tryz.func240 ?_;repeat'(first|refine gU ?_|apply gE<;>intro h|apply gM<;>intro h|apply gK)<;>conv=>whnf
 cases l with
 |nil=>
  refine j3j rfl (Finds.mono ha ?_);rintro _ _ ⟨rfl,rfl⟩;refine⟨rfl,?_⟩;repeat'(first|refine gU ?_|apply gE<;>intro h|apply gM<;>intro h|apply gK)<;>conv=>whnf
  refine j3j rfl (Finds.mono (j8B (F:=jmn) (Q:=fun r _=>r=.ret []) rfl rfl rfl) ?_)
  rintro _ _ rfl;refine⟨rfl,?_⟩;repeat'(first|refine gU ?_|apply gE<;>intro h|apply gM<;>intro h|apply gK)<;>conv=>whnf
  exact⟨rfl,rfl⟩
 |cons d q=>
  have hs:=jtC d q hl;have hlen:(j3i (d::q)).length=q.length+1:=by rw[j3C];rfl
  obtain⟨d1,q1,he⟩:∃d1 q1,j3i (d::q)=d1::q1:=by
   cases h:j3i (d::q) with
   |nil=>rw[h] at hlen;simp at hlen
   |cons d1 q1=>exact⟨d1,q1,rfl⟩
  rw[he] at hs hlen⊢;have hq:q.length=q1.length:=by simpa using hlen.symm
  refine j1d rfl (Finds.mono ha ?_);rintro _ _ ⟨rfl,rfl⟩;refine⟨rfl,j1A (.cons (j0o (j09 _)) .nil) rfl ?_⟩;repeat'(first|refine gU ?_|apply gE<;>intro h|apply gM<;>intro h|apply gK)<;>conv=>whnf
  refine j1e rfl rfl (.cons (j0o (j09 _)) .nil) rfl rfl rfl rfl (Finds.mono hs ?_);rintro _ _ ⟨rfl,rfl⟩;refine j1A (.cons (j0o (j09 _)) .nil) rfl ?_;repeat'(first|refine gU ?_|apply gE<;>intro h|apply gM<;>intro h|apply gK)<;>conv=>whnf
  exact j1g (.inl ⟨rfl,rfl,rfl⟩) rfl (j0B (.cons (j05 (j09 _)) .nil) (.cons (j05 (j09 _)) .nil) rfl rfl rfl rfl rfl) (j0L rfl) ⟨congrArg (fun n=>AEnd.ret [.ms 0 (n+1)]) hq,rfl⟩
def jql(l:List (List UInt8)):PV:=match l with
 |[]=>.sl true 0 []
 |d::q=>.sl false 1 (svs (d::q))
def jam(b:Bool)(z:Nat)(l:List (List UInt8))(hz:z=1∨l=[])(hl:l.length≤1000000000):Pf C1 183 [.sl b z (svs l)] [jql (j4p l)]:=by
 have hv:=jkK b z (svs l);have ha:=jkJ b z l hz hl;refine gR Tryz.func183 ?_;repeat'(first|refine gU ?_|apply gE<;>intro h|apply gM<;>intro h|refine gX hv ?_|apply gK)<;>conv=>whnf
 unfold j4p;cases hs:j3i l with
 |nil=>
  rw[hs] at ha;refine j3j rfl (Finds.mono ha ?_);rintro _ _ ⟨rfl,rfl⟩;refine⟨rfl,?_⟩;repeat'(first|refine gU ?_|apply gE<;>intro h|apply gM<;>intro h|apply gK)<;>conv=>whnf
  refine j3j rfl (Finds.mono (j8B (F:=jl0) (Q:=fun r _=>r=.ret [.sl true 0 []]) rfl rfl rfl) ?_)
  rintro _ _ rfl;refine⟨rfl,?_⟩;repeat'(first|refine gU ?_|apply gE<;>intro h|apply gM<;>intro h|apply gK)<;>conv=>whnf
  rfl
 |cons d q=>
  rw[hs] at ha;have hc:=jsO d q (by rw[←hs,j3C];exact hl)
  obtain⟨d1,q1,he⟩:∃d1 q1,j5D (d::q)=d1::q1:=⟨_,_,rfl⟩;rw[he] at hc⊢;refine j1d rfl (Finds.mono ha ?_);rintro _ _ ⟨rfl,rfl⟩;refine⟨rfl,j1A (.cons (j0o (j09 _)) .nil) rfl ?_⟩;repeat'(first|refine gU ?_|apply gE<;>intro h|apply gM<;>intro h|apply gK)<;>conv=>whnf
  refine j1e rfl rfl (.cons (j0o (j09 _)) .nil) rfl rfl rfl rfl (Finds.mono hc ?_);rintro _ _ ⟨rfl,rfl⟩;refine j1A (.cons j2i (.cons (j0o (j09 _)) .nil)) rfl ?_;repeat'(first|refine gU ?_|apply gE<;>intro h|apply gM<;>intro h|apply gK)<;>conv=>whnf
  refine j0m rfl (j03 (j0p rfl (by simp) (j2u _)) j0h) rfl ?_
  rfl
open Go Go.Am Go.Gw
def juO(cs:List PV):PV:=.fn 237 [] [.cp cs]
def jrH(t:Tm)(v:PV)(h:TmP t v):Pf C1 182 [v] [juO v.cells]:=by
 obtain⟨k,n,s,ls,ts,b,z,xs,c,y,ys,rfl,rfl,-⟩:=h.open;refine gR Tryz.func182 ?_;repeat'(first|refine gU ?_|apply gE<;>intro h|apply gM<;>intro h|apply gK)<;>conv=>whnf
 refine j0m rfl rfl rfl ?_;rfl
structure TVu where
 k:Int
 n:Int
 s:List UInt8
 b:Bool
 z:Nat
 xs:List PV
 c:Bool
 y:Nat
 ys:List PV
def TVu.cs(q:TVu):List PV:=[iv q.k,iv q.n,sv q.s,.sl q.b q.z q.xs,.sl q.c q.y q.ys]
def coLP(q:TVu)(g h:Bool)(a c:Code)(x:LpS):SO:=.lp [(9,juO q.cs),(8,.ag q.cs),(3,.bp 1 0),(7,bv g),(6,bv h),(5,.ag q.cs),(2,.sl true 0 []),(1,.bp 2 0),(0,.ag q.cs)] [10] a c x
def coS(lp:SO)(q:TVu)(don:List (List UInt8)):Sto:=match don with
 |[]=>[lp,.box 49 [.sl true 0 []],.box 25 q.cs]
 |d::r=>[lp,.box 49 [.ms 3 (r.length+1)],.box 25 q.cs,.row false 9 1 (svs (d::r))]
def jqe(lp:SO)(q:TVu)(d:List UInt8)(r m:List (List UInt8)):coS lp q (d::r++m)=[lp,.box 49 [.ms 3 (r.length+m.length+1)],.box 25 q.cs,.row false 9 1 (svs (d::r)++svs m)]:=by
 simp only[coS,BY,AL,svs,BC,DQ]
def coB(lp:SO)(q:TVu)(cs:List PV)(acc:List (List UInt8)):Sto:=match acc with
 |[]=>[lp,.box 49 [.sl true 0 []],.box 25 q.cs,.box 25 cs]
 |d::r=>[lp,.box 49 [.ms 5 (r.length+1)],.box 25 q.cs,.box 25 cs,.dead,.row false 9 1 (svs (d::r))]
def coV(lp:SO)(q:TVu)(cs:List PV)(d:List UInt8)(r:List (List UInt8)):Sto:=[lp,.box 49 [.ms 4 (r.length+1)],.box 25 q.cs,.box 25 cs,.row false 9 1 (svs (d::r))]
def coX(lp:SO)(q:TVu)(cs cs2:List PV)(d:List UInt8)(r:List (List UInt8)):Sto:=[lp,.box 49 [.ms 5 (r.length+1)],.box 25 q.cs,.box 25 cs,.box 25 cs2,.row false 9 1 (svs (d::r))]
def ownC(t:Tm):List (List UInt8):=if t.kind=3 then[t.name] else[]
def CoOk(lp:SO)(q:TVu):Prop:=∀(t:Tm) (v:PV),TmP t v→∀don:List (List UInt8),don.length≤1000000000→FindsY C1 [.yl 0,v] (coS lp q don) fun r st=>r=.ret [bv true]∧st=coS lp q (don++ownC t)
def jda:j0v (.mk k n s ls ts)=ownC (.mk k n s ls ts)++j0k ts:=by rw[j0v];rfl
mutual
theorem j4Q:∀t:Tm,(j0v t).length≤sizT t
 | .mk k n s ls ts=>by
  have:=j4f ts;rw[j0v,sizT,AL];split
  ·simp only[AC,AG];omega
  ·simp only[AG];omega
theorem j4f:∀ts:List Tm,(j0k ts).length≤j0x ts
 |[]=>by simp[j0k]
 |t::r=>by
  have h1:=j4Q t;have h2:=j4f r;rw[j0k,j0x,AL];omega
end
def j2N(h:ts[j]?=some tc):j0k (ts.take (j+1))=j0k (ts.take j)++j0v tc:=by
 rw[take_snoc' h];generalize ts.take j=l
 induction l with
 |nil=>simp[j0k]
 |cons a r ih=>rw[BY,j0k,j0k,ih,BZ]
def jhb:∀{ts:List Tm}{t:Tm},t∈ts→sizT t≤j0x ts
 |x::r,t,h=>by
  rw[j0x];rcases AN.1 h with rfl|h
  ·omega
  ·have:=jhb h;omega
def ja0(h:ts[j]?=some tc):j0x (ts.take j)+sizT tc≤j0x ts:=by
 have e:ts=ts.take j++tc::ts.drop (j+1):=by rw[←drop_at h,CW]
 have add:∀a b:List Tm,j0x (a++b)=j0x a+j0x b:=fun a b=>by
  induction a with
  |nil=>simp[j0x]
  |cons x r ih=>rw[BY,j0x,j0x,ih];omega
 rw[e,add,j0x];have e2:(ts.take j++tc::ts.drop (j+1)).take j=ts.take j:=by rw[←e]
 rw[e2];omega
def jpO(q:TVu)(gb hb:Bool)(a c:Code)(hY:CoOk (coLP q gb hb a c .ready) q)(t:Tm):∀v,TmP t v→∀p kk,allT t p kk=true→∀don:List (List UInt8),don.length+sizT t≤1000000000 →
  Finds C1 238 [v,.yl 0] (coS (coLP q gb hb a c .ready) q don) fun r st=>r=.ret [bv true]∧st=coS (coLP q gb hb a c .ready) q (don++j0v t):=by
 induction t using Tm.ind with
 |_ k nn s ls ts ih=>
 intro v hv p kk hC don gC;have gB:=hY _ _ hv don (by omega)
 have hsz:1+j0x ts≤sizT (.mk k nn s ls ts):=by rw[sizT];omega
 have wB:=j4H hC;obtain⟨qE,qD,hD,-,wC⟩:=j0q hC;rw[jda];obtain⟨_,_,_,_,_,b,z,xs,c1,y,ys,⟨rfl,rfl,rfl,rfl,rfl⟩,rfl,hz,hF,hlen,qF,hy,hE,hlen2,wE,kF⟩:=hv.open
 by_cases h3:k=3
 ·obtain rfl:=wB.1 (by omega)
  obtain rfl:ys=[]:=by simpa using hlen2
  have e:ownC (.mk k nn s ls [])=[s]:=if_pos h3;rw[e] at gB⊢;rw[j0k,BF];refine gR Tryz.func238 ?_;cases don with
  |nil=>
   repeat'(first|refine gU ?_|apply gE<;>intro h|apply gM<;>intro h|apply gK)<;>conv=>whnf
   refine j3k rfl (.cons (j0Q rfl rfl) (.cons (j07 rfl rfl) (.cons (j07 rfl rfl) (.cons (j07 rfl rfl) .nil)))) rfl rfl rfl rfl (j1W gB ?_);rintro _ _ ⟨rfl,rfl⟩;refine j1R (st':=coV (coLP q gb hb a c .ready) q [iv k,iv nn,sv s,.sl b z xs,.sl c1 y []] s []) (.cons (j0Q rfl rfl) (.cons (j07 rfl rfl) (.cons (j07 rfl rfl) (.cons (j0o (j09 _)) .nil)))) rfl rfl (by kernel_rfl) ?_
   repeat'(first|refine gU ?_|apply gE<;>intro h|apply gM<;>intro h|apply gK)<;>conv=>whnf
   refine j04 (G:=Unit) (fun _=>[]) (fun _=>_) (fun _=>True) (fun _=>0) () trivial rfl rfl ?_
   rintro _ _;repeat'(first|refine gU ?_|apply gE<;>intro h|apply gM<;>intro h|apply gK)<;>conv=>whnf
   exact j1g (.inr ⟨rfl,rfl⟩) rfl (j0B (.cons (j6a rfl rfl) (.cons (j02 rfl rfl) (.cons (j02 rfl rfl) (.cons (j02 rfl rfl) (.cons (j05 (j09 _)) .nil))))) (.cons (j6a rfl rfl) (.cons (j02 rfl rfl) (.cons (j02 rfl rfl) (.cons j0l (.cons (j05 (j09 _)) .nil))))) rfl rfl rfl rfl rfl) (j2a (.cons (j0Q rfl rfl) (.cons (j07 rfl rfl) (.cons (j07 rfl rfl) (.cons j2i (.cons (j0o (j09 _)) .nil))))) rfl rfl rfl rfl) ⟨rfl,rfl⟩
  |cons d r=>
   repeat'(first|refine gU ?_|apply gE<;>intro h|apply gM<;>intro h|apply gK)<;>conv=>whnf
   refine j3k rfl (.cons (j0Q rfl rfl) (.cons (j07 rfl rfl) (.cons (j07 rfl rfl) (.cons (j0o (j09 _)) (.cons (j07 rfl rfl) .nil))))) rfl rfl rfl rfl (j1W gB ?_);rintro _ _ ⟨rfl,rfl⟩;refine j1R (st':=coS (coLP q gb hb a c .ready) q (d::r++[s])++[.box 25 [iv k,iv nn,sv s,.sl b z xs,.sl c1 y []]]) (.cons (j0Q rfl rfl) (.cons (j07 rfl rfl) (.cons (j07 rfl rfl) (.cons (j0o (j09 _)) .nil)))) rfl rfl (by kernel_rfl) ?_
   repeat'(first|refine gU ?_|apply gE<;>intro h|apply gM<;>intro h|apply gK)<;>conv=>whnf
   refine j04 (G:=Unit) (fun _=>[]) (fun _=>_) (fun _=>True) (fun _=>0) () trivial rfl rfl ?_
   rintro _ _;repeat'(first|refine gU ?_|apply gE<;>intro h|apply gM<;>intro h|apply gK)<;>conv=>whnf
   exact j1h rfl rfl (.cons (j0Q rfl rfl) (.cons (j07 rfl rfl) (.cons (j07 rfl rfl) (.cons (j0o (j09 _)) .nil)))) rfl ⟨rfl,rfl⟩
 ·have e:ownC (.mk k nn s ls ts)=[]:=if_neg h3;rw[e,BF] at gB;rw[e,BV];have gA:∀(j:Nat) (gD:j<ts.length),∃tc,ts[j]?=some tc∧tc∈ts∧∃w,ys[j]?=some w∧TmP tc w∧(∀acc:List (List UInt8),acc.length+sizT tc≤1000000000→Finds C1 238 [w,.yl 0] (coS (coLP q gb hb a c .ready) q acc) fun r st=>r=.ret [bv true]∧st=coS (coLP q gb hb a c .ready) q (acc++j0v tc)):=fun j gD=>by
   obtain⟨tc,qB⟩:∃tc,ts[j]?=some tc:=⟨_,AA gD⟩;obtain⟨w,hw,hl⟩:=hE.at qB;have hB:=AE qB;exact⟨tc,qB,hB,w,hw,hl,ih _ hB w hl p _ (j2v wC qB)⟩
  refine gR Tryz.func238 ?_;cases don with
  |nil=>
   repeat'(first|refine gU ?_|apply gE<;>intro h|apply gM<;>intro h|apply gK)<;>conv=>whnf
   refine j3k rfl (.cons (j0Q rfl rfl) (.cons (j07 rfl rfl) (.cons (j07 rfl rfl) (.cons (j07 rfl rfl) .nil)))) rfl rfl rfl rfl (j1W gB ?_);rintro _ _ ⟨rfl,rfl⟩;refine j1R (st':=coB (coLP q gb hb a c .ready) q [iv k,iv nn,sv s,.sl b z xs,.sl c1 y ys] []) (.cons (j0Q rfl rfl) (.cons (j07 rfl rfl) (.cons (j07 rfl rfl) .nil))) rfl rfl (by kernel_rfl) ?_
   repeat'(first|refine gU ?_|apply gE<;>intro h|apply gM<;>intro h|apply gK)<;>conv=>whnf
   refine j04 (G:=Nat) (fun j=>[(14,iv j)]) (fun j=>coB (coLP q gb hb a c .ready) q [iv k,iv nn,sv s,.sl b z xs,.sl c1 y ys] (j0k (ts.take j))) (fun j=>j≤ts.length) (fun j=>ts.length-j) 0 (by omega) rfl (by simp only[EC,j0k]) ?_
   intro j hj;dsimp only;generalize hA:j0k (ts.take j)=acc;cases acc with
   |nil=>
    repeat'(first|refine gU ?_|apply gE<;>intro h|apply gM<;>intro h|apply gK)<;>conv=>whnf
    ·obtain⟨tc,qB,hB,w,hw,hl,qA⟩:=gA j (by omega)
     have wA:=qA [] (by have:=jhb hB;simp only[AG] at *;omega)
     have e2:j0k (ts.take (j+1))=j0v tc:=by rw[j2N qB,hA];rfl
     rw[BV] at wA;obtain⟨k1,n1,s1,l1,t1,b1,z1,x1,c2,y1,ys1,rfl,rfl,-⟩:=hl.open;repeat'(first|refine gU ?_|apply gE<;>intro h|apply gM<;>intro h|refine VIdx.mk _ hw ?_|refine gZ hy ?_|apply gK)<;>conv=>whnf
     refine j1e rfl rfl (.cons (j0Q rfl rfl) (.cons (j07 rfl rfl) (.cons (j07 rfl rfl) (.cons (j07 rfl rfl) (.cons (j07 rfl rfl) .nil))))) rfl rfl rfl rfl (Finds.mono wA ?_);rintro _ _ ⟨rfl,rfl⟩;cases wD:j0v (.mk k1 n1 s1 l1 t1) with
     |nil=>
      rw[wD] at e2;refine j1R (st':=coB (coLP q gb hb a c .ready) q [iv k,iv nn,sv s,.sl b z xs,.sl c1 y ys] []++[.box 25 [iv k1,iv n1,sv s1,.sl b1 z1 x1,.sl c2 y1 ys1]]) (.cons (j0Q rfl rfl) (.cons (j07 rfl rfl) (.cons (j07 rfl rfl) .nil))) rfl rfl (by kernel_rfl) ?_
      repeat'(first|refine gU ?_|apply gE<;>intro h|apply gM<;>intro h|apply gK)<;>conv=>whnf
      exact VAgain.mk _ rfl _ (j0B (.cons (j6a rfl rfl) (.cons (j02 rfl rfl) (.cons (j02 rfl rfl) (.cons (j02 rfl rfl) (.cons (j02 rfl rfl) .nil))))) (.cons (j6a rfl rfl) (.cons (j02 rfl rfl) (.cons (j02 rfl rfl) (.cons (j02 rfl rfl) .nil)))) rfl rfl rfl rfl rfl) ⟨j+1,by omega,by omega,by rw[e2];rfl⟩
     |cons d1 r1=>
      rw[wD] at e2;refine j1R (st':=coX (coLP q gb hb a c .ready) q [iv k,iv nn,sv s,.sl b z xs,.sl c1 y ys] [iv k1,iv n1,sv s1,.sl b1 z1 x1,.sl c2 y1 ys1] d1 r1) (.cons (j0Q rfl rfl) (.cons (j07 rfl rfl) (.cons (j07 rfl rfl) (.cons (j0o (j09 _)) .nil)))) rfl rfl (by kernel_rfl) ?_
      repeat'(first|refine gU ?_|apply gE<;>intro h|apply gM<;>intro h|apply gK)<;>conv=>whnf
      exact VAgain.mk _ rfl _ (j0B (.cons (j6a rfl rfl) (.cons (j02 rfl rfl) (.cons (j02 rfl rfl) (.cons (j02 rfl rfl) (.cons (j02 rfl rfl) (.cons (j05 (j09 _)) .nil)))))) (.cons (j6a rfl rfl) (.cons (j02 rfl rfl) (.cons (j02 rfl rfl) (.cons (j02 rfl rfl) (.cons j0l (.cons (j05 (j09 _)) .nil)))))) rfl rfl rfl rfl rfl) ⟨j+1,by omega,by omega,by rw[e2];rfl⟩
    ·have e2:j0k ts=[]:=by rw[←hA,BR (by omega)]
     rw[e2];exact⟨rfl,rfl⟩
   |cons d0 r0=>
    repeat'(first|refine gU ?_|apply gE<;>intro h|apply gM<;>intro h|apply gK)<;>conv=>whnf
    ·obtain⟨tc,qB,hB,w,hw,hl,qA⟩:=gA j (by omega)
     have kE:=ja0 qB;have qC:=j4f (ts.take j);rw[hA] at qC;have wA:=qA (d0::r0) (by simp only[AG] at gC;omega)
     have e2:j0k (ts.take (j+1))=d0::r0++j0v tc:=by rw[j2N qB,hA]
     obtain⟨k1,n1,s1,l1,t1,b1,z1,x1,c2,y1,ys1,rfl,rfl,-⟩:=hl.open;repeat'(first|refine gU ?_|apply gE<;>intro h|apply gM<;>intro h|refine VIdx.mk _ hw ?_|refine gZ hy ?_|apply gK)<;>conv=>whnf
     refine j1e rfl rfl (.cons (j0Q rfl rfl) (.cons (j07 rfl rfl) (.cons (j07 rfl rfl) (.cons (j07 rfl rfl) (.cons j2i (.cons (j0o (j09 _)) (.cons (j07 rfl rfl) .nil))))))) rfl rfl rfl rfl (Finds.mono wA ?_);rintro _ _ ⟨rfl,rfl⟩;refine j1R (st':=coB (coLP q gb hb a c .ready) q [iv k,iv nn,sv s,.sl b z xs,.sl c1 y ys] (d0::r0++j0v (.mk k1 n1 s1 l1 t1))++[.box 25 [iv k1,iv n1,sv s1,.sl b1 z1 x1,.sl c2 y1 ys1]]) (.cons (j0Q rfl rfl) (.cons (j07 rfl rfl) (.cons (j07 rfl rfl) (.cons (j0o (j09 _)) .nil)))) rfl rfl (by kernel_rfl) ?_
     repeat'(first|refine gU ?_|apply gE<;>intro h|apply gM<;>intro h|apply gK)<;>conv=>whnf
     exact VAgain.mk _ rfl _ (j0B (.cons (j6a rfl rfl) (.cons (j02 rfl rfl) (.cons (j02 rfl rfl) (.cons (j02 rfl rfl) (.cons j0l (.cons (j05 (j09 _)) (.cons (j02 rfl rfl) .nil))))))) (.cons (j6a rfl rfl) (.cons (j02 rfl rfl) (.cons (j02 rfl rfl) (.cons (j02 rfl rfl) (.cons j0l (.cons (j05 (j09 _)) .nil)))))) rfl rfl rfl rfl rfl) ⟨j+1,by omega,by omega,by rw[e2];rfl⟩
    ·have e2:j0k ts=d0::r0:=by rw[←hA,BR (by omega)]
     rw[e2];exact j1g (.inr ⟨rfl,rfl⟩) rfl (j0B (.cons (j6a rfl rfl) (.cons (j02 rfl rfl) (.cons (j02 rfl rfl) (.cons (j02 rfl rfl) (.cons j0l (.cons (j05 (j09 _)) .nil)))))) (.cons (j6a rfl rfl) (.cons (j02 rfl rfl) (.cons (j02 rfl rfl) (.cons j0l (.cons j0l (.cons (j05 (j09 _)) .nil)))))) rfl rfl rfl rfl rfl) (j2a (.cons (j0Q rfl rfl) (.cons (j07 rfl rfl) (.cons (j07 rfl rfl) (.cons j2i (.cons j2i (.cons (j0o (j09 _)) .nil)))))) rfl rfl rfl rfl) ⟨rfl,rfl⟩
  |cons d r=>
   repeat'(first|refine gU ?_|apply gE<;>intro h|apply gM<;>intro h|apply gK)<;>conv=>whnf
   refine j3k rfl (.cons (j0Q rfl rfl) (.cons (j07 rfl rfl) (.cons (j07 rfl rfl) (.cons (j0o (j09 _)) (.cons (j07 rfl rfl) .nil))))) rfl rfl rfl rfl (j1W gB ?_);rintro _ _ ⟨rfl,rfl⟩;refine j1R (st':=coS (coLP q gb hb a c .ready) q (d::r)++[.box 25 [iv k,iv nn,sv s,.sl b z xs,.sl c1 y ys]]) (.cons (j0Q rfl rfl) (.cons (j07 rfl rfl) (.cons (j07 rfl rfl) (.cons (j0o (j09 _)) .nil)))) rfl rfl (by kernel_rfl) ?_
   repeat'(first|refine gU ?_|apply gE<;>intro h|apply gM<;>intro h|apply gK)<;>conv=>whnf
   refine j04 (G:=Nat) (fun j=>[(14,iv j)]) (fun j=>coS (coLP q gb hb a c .ready) q (d::r++j0k (ts.take j))++[.box 25 [iv k,iv nn,sv s,.sl b z xs,.sl c1 y ys]]) (fun j=>j≤ts.length) (fun j=>ts.length-j) 0 (by omega) rfl (by simp only[EC,j0k,BF]) ?_
   intro j hj;dsimp only;generalize hA:j0k (ts.take j)=acc;repeat'(first|refine gU ?_|apply gE<;>intro h|apply gM<;>intro h|apply gK)<;>conv=>whnf
   ·obtain⟨tc,qB,hB,w,hw,hl,qA⟩:=gA j (by omega)
    have kE:=ja0 qB;have qC:=j4f (ts.take j);rw[hA] at qC;have wA:=qA (d::r++acc) (by simp only[AL] at *;omega)
    have e2:d::r++j0k (ts.take (j+1))=d::r++acc++j0v tc:=by rw[j2N qB,hA,BZ]
    obtain⟨k1,n1,s1,l1,t1,b1,z1,x1,c2,y1,ys1,rfl,rfl,-⟩:=hl.open;repeat'(first|refine gU ?_|apply gE<;>intro h|apply gM<;>intro h|refine VIdx.mk _ hw ?_|refine gZ hy ?_|apply gK)<;>conv=>whnf
    refine j1e rfl rfl (.cons (j0Q rfl rfl) (.cons (j07 rfl rfl) (.cons (j07 rfl rfl) (.cons (j0o (j09 _)) (.cons (j07 rfl rfl) (.cons (j07 rfl rfl) .nil)))))) rfl rfl rfl rfl (Finds.mono wA ?_);rintro _ _ ⟨rfl,rfl⟩;refine j1R (st':=coS (coLP q gb hb a c .ready) q (d::r++acc++j0v (.mk k1 n1 s1 l1 t1))++[.box 25 [iv k,iv nn,sv s,.sl b z xs,.sl c1 y ys],.box 25 [iv k1,iv n1,sv s1,.sl b1 z1 x1,.sl c2 y1 ys1]]) (.cons (j0Q rfl rfl) (.cons (j07 rfl rfl) (.cons (j07 rfl rfl) (.cons (j0o (j09 _)) .nil)))) rfl rfl (by kernel_rfl) ?_
    repeat'(first|refine gU ?_|apply gE<;>intro h|apply gM<;>intro h|apply gK)<;>conv=>whnf
    exact VAgain.mk _ rfl _ (j0B (.cons (j6a rfl rfl) (.cons (j02 rfl rfl) (.cons (j02 rfl rfl) (.cons (j05 (j09 _)) (.cons (j02 rfl rfl) (.cons (j02 rfl rfl) .nil)))))) (.cons (j6a rfl rfl) (.cons (j02 rfl rfl) (.cons (j02 rfl rfl) (.cons (j05 (j09 _)) (.cons (j02 rfl rfl) .nil))))) rfl rfl rfl rfl rfl) ⟨j+1,by omega,by omega,by rw[e2];rfl⟩
   ·have e2:j0k ts=acc:=by rw[←hA,BR (by omega)]
    rw[e2];exact j1h rfl rfl (.cons (j0Q rfl rfl) (.cons (j07 rfl rfl) (.cons (j07 rfl rfl) (.cons (j0o (j09 _)) .nil)))) rfl ⟨rfl,rfl⟩
def jpS(q:TVu)(gb hb:Bool)(a c:Code)(hY:CoOk (coLP q gb hb a c .ready) q)(t:Tm)(hv:TmP t (.ag q.cs))(p kk:Int)(qA:allT t p kk=true)(hs:sizT t≤1000000000):
  Finds C1 237 [.yl 0,.cp q.cs] (coS (coLP q gb hb a c .ready) q []) fun r st=>r=.ret []∧st=coS (coLP q gb hb a c .ready) q (j0v t):=by
 have hA:=jpO q gb hb a c hY t _ hv p kk qA [] (by simpa using hs)
 refine gR Tryz.func237 ?_;repeat'(first|refine gU ?_|apply gE<;>intro h|apply gM<;>intro h|apply gK)<;>conv=>whnf
 refine j1e rfl rfl (.cons (j0Q rfl rfl) (.cons (j07 rfl rfl) (.cons (j07 rfl rfl) .nil))) rfl rfl rfl rfl (Finds.mono hA ?_);rintro _ _ ⟨rfl,rfl⟩;rw[BV];cases j0v t with
 |nil=>
  refine j1R (st':=coS (coLP q gb hb a c .ready) q []) (.cons (j0Q rfl rfl) (.cons (j07 rfl rfl) (.cons (j07 rfl rfl) .nil))) rfl rfl (by kernel_rfl) ?_
  repeat'(first|refine gU ?_|apply gE<;>intro h|apply gM<;>intro h|apply gK)<;>conv=>whnf
  exact⟨rfl,rfl⟩
 |cons d r=>
  refine j1R (st':=coS (coLP q gb hb a c .ready) q (d::r)) (.cons (j0Q rfl rfl) (.cons (j07 rfl rfl) (.cons (j07 rfl rfl) (.cons (j0o (j09 _)) .nil)))) rfl rfl (by kernel_rfl) ?_
  repeat'(first|refine gU ?_|apply gE<;>intro h|apply gM<;>intro h|apply gK)<;>conv=>whnf
  exact j1g (.inr ⟨rfl,rfl⟩) rfl (j0B (.cons (j6a rfl rfl) (.cons (j02 rfl rfl) (.cons (j02 rfl rfl) (.cons (j05 (j09 _)) .nil)))) (.cons (j6a rfl rfl) (.cons (j02 rfl rfl) (.cons (j02 rfl rfl) (.cons (j05 (j09 _)) .nil)))) rfl rfl rfl rfl rfl) (j0L rfl) ⟨rfl,rfl⟩
def j2J(t:Tm):List (List UInt8):=if anyT t=true then j4p (j0v t) else[]
def jkI(t:Tm)(v:PV)(h:TmP t v):Pf C1 116 [v] [jql (j2J t)]:=by
 have hr:=j0R t v h 4 1125899906842624;have hw:=jrH t v h;have gA:¬anyT t=true→j2J t=[]:=fun e=>if_neg e
 have gB:anyT t=true→j2J t=j4p (j0v t):=fun e=>if_pos e
 have hlen:anyT t=true→(j0v t).length≤2000:=fun e=>BL (j4Q t) (j9r e)
 have h0:=h;obtain⟨k,n,s,ls,ts,b,z,xs,c,y,ys,rfl,rfl,-⟩:=h.open;refine gR Tryz.func116 ?_;repeat'(first|refine gU ?_|apply gE<;>intro h|apply gM<;>intro h|refine gX hr ?_|refine gX hw ?_|apply gK)<;>conv=>whnf
 ·have hA:anyT (.mk k n s ls ts)=true:=h;refine j1e (st0:=coS (coLP ⟨k,n,s,b,z,xs,c,y,ys⟩ (!j0s (.mk k n s ls ts) 4 1125899906842624) (j0s (.mk k n s ls ts) 4 1125899906842624) _ _ .ready) ⟨k,n,s,b,z,xs,c,y,ys⟩ []) (args0:=[.yl 0,.cp [iv k,iv n,sv s,.sl b z xs,.sl c y ys]]) rfl rfl (.cons (j07 rfl rfl) (.cons (j07 rfl rfl) (.cons (j0Q rfl rfl) .nil))) rfl rfl rfl rfl (Finds.mono (jpS ⟨k,n,s,b,z,xs,c,y,ys⟩ _ _ _ _ ?_ (.mk k n s ls ts) h0 4 _ (j2n hA).2 (by have:=j9r hA;omega)) ?_)
  ·intro t1 v1 hB don hd;obtain⟨k1,n1,s1,l1,t1,b1,z1,x1,c1,y1,ys1,rfl,rfl,-⟩:=hB.open
   by_cases h3:k1=3
   ·have e:ownC (.mk k1 n1 s1 l1 t1)=[s1]:=if_pos h3;rw[e];cases don with
    |nil=>
     refine j2d rfl rfl ?_;repeat'(first|refine gU ?_|apply gE<;>intro h|apply gM<;>intro h|apply gK)<;>conv=>whnf
     exact⟨rfl,by kernel_rfl⟩
    |cons d r=>
     have wB:(svs (d::r)).length=r.length+1:=by simp
     have qB:(svs (d::r)++[sv s1]).all (pur 8)=true:=by
      rw[show svs (d::r)++[sv s1]=svs (d::r++[s1]) by simp[svs]]
      exact j09 _
     simp only[AC] at hd;refine j2d rfl rfl ?_;repeat'(first|refine gU ?_|apply gE<;>intro h|apply gM<;>intro h|refine VOk.mk (j0N (w:=16) (r:=140737488355328) wB rfl rfl rfl rfl (by simp only[AC,AG];omega) (by simp only[AC,AG];omega)) ?_|apply gK)<;>conv=>whnf
     rw[jqe];exact⟨rfl,j6g rfl (.cons (j0Q rfl rfl) (.cons (j07 rfl rfl) (.cons (j07 rfl rfl) (.cons (j0o qB) .nil)))) rfl⟩
   ·have e:ownC (.mk k1 n1 s1 l1 t1)=[]:=if_neg h3;rw[e,BF];cases don with
    |nil=>
     refine j2d rfl rfl ?_;repeat'(first|refine gU ?_|apply gE<;>intro h|apply gM<;>intro h|apply gK)<;>conv=>whnf
     exact⟨rfl,by kernel_rfl⟩
    |cons d r=>
     refine j2d rfl rfl ?_;repeat'(first|refine gU ?_|apply gE<;>intro h|apply gM<;>intro h|apply gK)<;>conv=>whnf
     exact⟨rfl,j6g rfl (.cons (j0Q rfl rfl) (.cons (j07 rfl rfl) (.cons (j07 rfl rfl) (.cons (j0o (j09 _)) .nil)))) rfl⟩
  ·rintro _ _ ⟨rfl,rfl⟩;rw[gB hA];have hC:=hlen hA;have wA:∀l:List (List UInt8),[jql l].all (pur 8)=true:=fun l=>by cases l<;>rfl
   cases qC:j0v (.mk k n s ls ts) with
   |nil=>
    have qA:=jam true 0 [] (.inr rfl) (by simp)
    refine j1A (.cons (j0Q rfl rfl) (.cons (j07 rfl rfl) (.cons (j07 rfl rfl) .nil))) rfl ?_;repeat'(first|refine gU ?_|apply gE<;>intro h|apply gM<;>intro h|refine gX qA ?_|apply gK)<;>conv=>whnf
    rfl
   |cons d r=>
    rw[qC] at hC;have qA:=jam false 1 (d::r) (.inl rfl) (by omega)
    refine j1A (.cons (j0Q rfl rfl) (.cons (j07 rfl rfl) (.cons (j07 rfl rfl) (.cons (j0o (j09 _)) .nil)))) rfl ?_;repeat'(first|refine gU ?_|apply gE<;>intro h|apply gM<;>intro h|apply gK)<;>conv=>whnf
    refine jpN rfl rfl (by simp) (j2u _) qA (wA _) ?_
    repeat'(first|refine gU ?_|apply gE<;>intro h|apply gM<;>intro h|apply gK)<;>conv=>whnf
    exact vret_pf (wA _) rfl
 ·rw[gA (fun e=>by rw[show j0s _ 4 1125899906842624=anyT _ from rfl,e] at h;cases h)]
  rfl
open Go Go.Am Go.Gw
def jlg(l:List (List UInt8)):∃b z,jql l=.sl b z (svs l)∧(z=1∨l=[]):=by
 cases l with
 |nil=>exact⟨_,_,rfl,.inr rfl⟩
 |cons d r=>exact⟨_,_,rfl,.inl rfl⟩
def jhv(t:Tm):(j2J t).length≤2000:=by
 unfold j2J;split
 ·rename_i h;unfold j4p;refine BL (jad _) ?_;rw[j3C];exact BL (j4Q t) (j9r h)
 ·simp
def LoP(x:List UInt8×Tm)(v:PV):Prop:=∃cs,v=.ag (sv x.1::cs)∧TmP x.2 (.ag cs)∧x.1.length≤140737488355328
def LosP:List (List UInt8×Tm)→List PV→Prop
 |[],xs=>xs=[]
 |l::r,xs=>∃v xs',xs=v::xs'∧LoP l v∧LosP r xs'
def LosP.len:∀{ls:List (List UInt8×Tm)}{xs:List PV},LosP ls xs→xs.length=ls.length
 |[],xs,h=>by simp only[LosP] at h;simp[h]
 |l::r,xs,h=>by
  simp only[LosP] at h;obtain⟨v,xs',rfl,_,h⟩:=h;simp[LosP.len h]
def LosP.at:∀{ls:List (List UInt8×Tm)}{xs:List PV}{i:Nat}{l:List UInt8×Tm},LosP ls xs→ls[i]?=some l→∃v,xs[i]?=some v∧LoP l v
 |[],xs,i,l,_,h=>by simp at h
 |x::r,xs,i,l,h,e=>by
  simp only[LosP] at h;obtain⟨v,xs',rfl,h1,h2⟩:=h;cases i with
  |zero=>simp at e;subst e;exact⟨v,rfl,h1⟩
  |succ i=>simpa using LosP.at h2 (by simpa using e)
def LoP.open{x:List UInt8×Tm}{v:PV}(h:LoP x v):∃s k n s1 b z xs c y ys t,x=(s,t)∧v=.ag [sv s,iv k,iv n,sv s1,.sl b z xs,.sl c y ys]∧TmP t (.ag [iv k,iv n,sv s1,.sl b z xs,.sl c y ys])∧s.length≤140737488355328:=by
 obtain⟨s,t⟩:=x;obtain⟨cs,rfl,h1,h2⟩:=h;obtain⟨k,n,s0,ls,ts,b,z,xs,c,y,ys,-,e,-⟩:=h1.open;cases e;exact⟨s,_,_,_,_,_,_,_,_,_,t,rfl,rfl,h1,h2⟩

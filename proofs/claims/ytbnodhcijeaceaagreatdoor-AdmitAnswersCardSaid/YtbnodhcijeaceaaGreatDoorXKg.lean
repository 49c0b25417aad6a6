/- Levels: made, compared, with others in the parameters' places. -/
import Derived.Test.YtbnodhcijeaceaaGreatDoorXKb
set_option linter.all false
set_option maxHeartbeats 2000000
set_option maxRecDepth 100000
namespace Go.Proofs.YtbnodhcijeaceaaGreatDoor
open Go Go.Am Go.Gw
def jiR(l:Lv):Lv:=.mk 3 0 [l]
def joe(l m:Lv):Lv:=.mk 5 0 [l,m]
def ja7(l:Lv):Bool:=leqF l (.mk 1 0 [])
def jap(l m:Lv):Bool:=leqF l m&&leqF m l
def j9s(l m:Lv):Lv:=if ja7 m=true then .mk 1 0 [] else if leqF l m=true then m else joe l m
def jtj(n:Int):LvP (.mk 1 n []) (.ag [iv 1,iv n,.sl true 0 []]):=⟨true,0,[],rfl,.inr rfl,by simp[LvsP],by simp⟩
def jq0(l:Lv)(v:PV)(h:LvP l v):Pf C1 153 [v] [encL (jiR l)]:=by
 have hm:=jk5 3 [l] true 3 [v] (.inl rfl) ⟨v,[],rfl,h,rfl⟩ (by simp)
 have e:encL (jiR l)=encL (.mk 3 0 [l]):=rfl;rw[e];obtain⟨k2,n2,b2,z2,x2,he⟩:=j0t (.mk 3 0 [l]);rw[he] at hm⊢;obtain⟨k1,n1,l1,b1,z1,x1,rfl,rfl,wA,qA,hA,gA⟩:=h.open;refine gR Tryz.func153 ?_;repeat'(first|refine gU ?_|refine gX hm ?_)<;>conv=>whnf
 rfl
def jpZ(l:Lv)(v:PV)(h:LvP l v)(m:Lv)(w:PV)(h':LvP m w):Pf C1 102 [v,w] [encL (joe l m)]:=by
 have hm:=jk5 5 [l,m] true 3 [v,w] (.inl rfl) ⟨v,[w],rfl,h,w,[],rfl,h',rfl⟩ (by simp)
 have e:encL (joe l m)=encL (.mk 5 0 [l,m]):=rfl;rw[e];obtain⟨k2,n2,b2,z2,x2,he⟩:=j0t (.mk 5 0 [l,m]);rw[he] at hm⊢;obtain⟨k1,n1,l1,b1,z1,x1,rfl,rfl,wB,wA,qA,qB⟩:=h.open;obtain⟨k3,n3,l3,b3,z3,x3,rfl,rfl,gB,gA,hA,hB⟩:=h'.open;refine gR Tryz.func102 ?_;repeat'(first|refine gU ?_|refine gX hm ?_)<;>conv=>whnf
 rfl
def jaA(l:Lv)(v:PV)(h:LvP l v):Pf C1 50 [v] [bv (ja7 l)]:=by
 have hn:=joY 0;have hq:=jeL l (.mk 1 0 []) v _ h (jtj 0);have e:ja7 l=leqF l (.mk 1 0 []):=rfl;rw[e];obtain⟨k1,n1,l1,b1,z1,x1,rfl,rfl,wA,qA,hA,gA⟩:=h.open;refine gR Tryz.func50 ?_;repeat'(first|refine gU ?_|refine j01 hn fun _=>?_|refine j01 hq fun _=>?_|apply gK)<;>conv=>whnf
 all_goals rfl
def jfD(l:Lv)(v:PV)(h:LvP l v)(m:Lv)(w:PV)(h':LvP m w):Pf C1 204 [v,w] [bv (jap l m)]:=by
 have h1:=jeL l m v w h h';have h2:=jeL m l w v h' h;have e:jap l m=(leqF l m&&leqF m l):=rfl;obtain⟨k1,n1,l1,b1,z1,x1,rfl,rfl,wB,wA,qA,qB⟩:=h.open;obtain⟨k3,n3,l3,b3,z3,x3,rfl,rfl,gB,gA,hA,hB⟩:=h'.open;refine gR Tryz.func204 ?_;repeat'(first|refine gU ?_|apply gM<;>intro h|refine gX h1 ?_|refine gX h2 ?_)<;>conv=>whnf
 all_goals
  refine j0O ?_
  simp_all
def jfV(l:Lv)(v:PV)(h:LvP l v)(m:Lv)(w:PV)(h':LvP m w):Pf C1 51 [v,w] [encL (j9s l m)]:=by
 have hz:=jaA m w h';have hq:=jeL l m v w h h';have hn:=joY 0;have hx:=j8R m w h' true 3 rfl;have hi:=jpZ l v h m w h';have e:j9s l m=if ja7 m=true then .mk 1 0 [] else if leqF l m=true then m else joe l m:=rfl
 obtain⟨k2,n2,b2,z2,x2,qB⟩:=j0t m;obtain⟨k4,n4,b4,z4,x4,hB⟩:=j0t (joe l m);obtain⟨k1,n1,l1,b1,z1,x1,rfl,rfl,qC,wA,qA,wB⟩:=h.open;obtain⟨k3,n3,l3,b3,z3,x3,rfl,rfl,hC,gA,hA,gB⟩:=h'.open
 by_cases c1:ja7 (.mk k3 n3 l3)=true
 ·rw[e,if_pos c1];rw[c1] at hz;refine gR Tryz.func51 ?_;repeat'(first|refine gU ?_|refine gX hz ?_|refine gX hn ?_)<;>conv=>whnf
  all_goals rfl
 ·rw[e,if_neg c1];rw[ET] at c1;rw[c1] at hz
  by_cases c2:leqF (.mk k1 n1 l1) (.mk k3 n3 l3)=true
  ·rw[if_pos c2];rw[c2] at hq;rw[qB] at hx⊢;refine gR Tryz.func51 ?_;repeat'(first|refine gU ?_|refine gX hz ?_|refine gX hq ?_|refine gX hx ?_)<;>conv=>whnf
   all_goals rfl
  ·rw[if_neg c2];rw[ET] at c2;rw[c2] at hq;rw[hB] at hi⊢;refine gR Tryz.func51 ?_;repeat'(first|refine gU ?_|refine gX hz ?_|refine gX hq ?_|refine gX hi ?_)<;>conv=>whnf
   all_goals rfl
def j7t:∀(ls bys:List Lv),jdr ls bys=ls.map fun l=>j2Y l bys
 |[],_=>rfl
 |l::r,bys=>by rw[jdr,j7t r bys];rfl
variable{k n p:Int}{bys ls:List Lv}{ts:List Tm}{s:List UInt8}{l:Lv}{i:Nat}{v:PV}
def jgA:j2Y (.mk 2 n ls) bys=bys.getD n.toNat (.mk 0 0 []):=by simp[j2Y,jeE]
def jjS(h:¬k=2):j2Y (.mk k n ls) bys=.mk k n (ls.map fun l=>j2Y l bys):=by simp[j2Y,jeE,h,j7t]
def jjh(h:allF (.mk 2 n ls) p=true):0≤n∧n<p:=by
 simp only[allF,AB] at h;have h1:=h.1;simp only[j7G] at h1;split at h1
 ·simpa using h1
 ·simp at h1
def jfM(h:allF (.mk k n ls) p=true):j3n ls p=true:=by
 simp only[allF,AB] at h;exact h.2
def jmW(h:j3n ls p=true)(e:ls[i]?=some l):allF l p=true:=j5v h e
def jol(bys:List Lv)(bb:Bool)(bz:Nat)(bxs:List PV)(wD:bz=3∨bxs=[])(gB:LvsP bys bxs)(wE:bys.length≤1000000)(l:Lv):∀v,LvP l v→allF l bys.length=true→Pf C1 382 [v,.sl bb bz bxs] [encL (j2Y l bys)]:=by
 induction l using Lv.ind with
 |_ k nn ls ih=>
 intro v h hC;obtain⟨_,_,_,b,z,xs,⟨rfl,rfl,rfl⟩,rfl,hz,gD,hlen,qE⟩:=h.open;have qD:=gB.len
 by_cases hk:k=2
 ·subst hk;obtain⟨kE,hE⟩:=jjh hC;obtain⟨n,rfl⟩:∃n:Nat,nn=n:=⟨nn.toNat,by omega⟩
  obtain⟨lc,qA⟩:∃lc,bys[n]?=some lc:=⟨_,AA (by omega)⟩
  obtain⟨v,hv,hl⟩:=gB.at qA;have hc:=j9w lc v hl;have e:j2Y (.mk 2 n ls) bys=lc:=by
   rw[jgA,AQ,show(n:Int).toNat=n by simp,qA]
   rfl
  rw[e];obtain⟨k2,n2,b2,z2,x2,he⟩:=j0t lc;rw[he] at hc⊢;obtain⟨k1,n1,l1,b1,z1,x1,rfl,rfl,wC,hB,wA,wB⟩:=hl.open;refine gR Tryz.func382 ?_;repeat'(first|refine gU ?_|refine VIdx.mk _ hv ?_|refine gZ wD ?_|refine gX hc ?_)<;>conv=>whnf
  rfl
 ·rw[jjS hk];refine gR Tryz.func382 ?_;repeat'(refine gU ?_)<;>conv=>whnf
  refine j04 (G:=Nat) (fun i=>[(25,iv i)]) (fun i=>match i with
    |0=>[.box 86 [iv k,iv nn,.sl b z xs],.box 86 zLv,.box 86 [iv k,iv nn,.sl true 0 []]]
    |n+1=>[.box 86 [iv k,iv nn,.sl b z xs],.box 86 zLv,.box 86 [iv k,iv nn,.ms 4 (n+1)],.dead,.row false 86 3 ((ls.take (n+1)).map fun l=>encL (j2Y l bys))]) (fun i=>i≤ls.length) (fun i=>ls.length-i) 0 (by omega) rfl rfl ?_
  intro i hi;have hA:∀(qC:i<ls.length),∃lc,ls[i]?=some lc∧∃v,xs[i]?=some v∧LvP lc v∧Pf C1 382 [v,.sl bb bz bxs] [encL (j2Y lc bys)]:=fun qC=>by
   obtain⟨lc,qA⟩:∃lc,ls[i]?=some lc:=⟨_,AA qC⟩;obtain⟨v,hv,hl⟩:=gD.at qA;exact⟨lc,qA,v,hv,hl,ih _ (AE qA) _ hl (jmW (jfM hC) qA)⟩
  have gA:∀(q:Nat) (n:Nat),((ls.take n).map fun l=>encL (j2Y l bys)).all (pur (q+2))=true:=fun q n=>by
   rw[AF]
   intro x hx;obtain⟨l,_,rfl⟩:=DC.1 hx;exact jgb _ q
  cases i with
  |zero=>
   repeat'(first|refine gU ?_|apply gE<;>intro h)<;>conv=>whnf
   ·obtain⟨lc,qA,v,hv,hl,qB⟩:=hA (by omega)
    have e:((ls.take (0+1)).map fun l=>encL (j2Y l bys))=[encL (j2Y lc bys)]:=by rw[take_snoc' qA];rfl
    obtain⟨k2,n2,b2,z2,x2,he⟩:=j0t (j2Y lc bys);rw[he] at qB e;obtain⟨k1,n1,l1,b1,z1,x1,rfl,rfl,wC,hB,wA,wB⟩:=hl.open;refine VIdx.mk _ hv (VOk.mk (j0z rfl hz) ?_);repeat'(first|refine gU ?_|refine j01 qB fun _=>?_|apply gK)<;>conv=>whnf
    exact VAgain.mk _ rfl _ (j0B (.cons (j02 rfl rfl) (.cons (j02 rfl rfl) (.cons (j02 rfl rfl) (.cons (j02 rfl rfl) (.cons (j05 rfl) .nil))))) (.cons (j02 rfl rfl) (.cons (j02 rfl rfl) (.cons (j02 rfl rfl) (.cons j0l (.cons (j05 rfl) .nil))))) rfl rfl rfl rfl rfl) ⟨1,by omega,by omega,congrArg (fun t=>(⟨_,[.box _ [iv k,iv nn,.sl b z xs],.box _ zLv,.box _ [iv k,iv nn,.ms 4 1],.dead,.row false _ 3 t]⟩:AS)) e.symm⟩
   ·obtain rfl:ls=[]:=AJ (by omega)
    rfl
  |succ i=>
   have hD:((ls.take (i+1)).map fun l=>encL (j2Y l bys)).length=i+1:=by simp;omega
   repeat'(first|refine gU ?_|apply gE<;>intro h)<;>conv=>whnf
   ·obtain⟨lc,qA,v,hv,hl,qB⟩:=hA (by omega)
    have e:((ls.take (i+1+1)).map fun l=>encL (j2Y l bys))=((ls.take (i+1)).map fun l=>encL (j2Y l bys))++[encL (j2Y lc bys)]:=by rw[take_snoc' qA];simp
    have gC:(((ls.take (i+1)).map fun l=>encL (j2Y l bys))++[encL (j2Y lc bys)]).all (pur 8)=true:=e▸gA 6 _
    obtain⟨k2,n2,b2,z2,x2,he⟩:=j0t (j2Y lc bys);rw[he] at qB e gC;obtain⟨k1,n1,l1,b1,z1,x1,rfl,rfl,wC,hB,wA,wB⟩:=hl.open;refine VIdx.mk _ hv (VOk.mk (j0z rfl hz) ?_);repeat'(first|refine gU ?_|refine j01 qB fun _=>?_|refine VOk.mk (j0N (w:=40) (r:=140737488355328) hD rfl rfl rfl rfl (by simp only[AC,AG];omega) (by simp only[AC,AG];omega)) ?_|apply gK)<;>conv=>whnf
    exact VAgain.mk _ rfl _ (j0B (.cons (j02 rfl rfl) (.cons (j02 rfl rfl) (.cons (j02 rfl rfl) (.cons j0l (.cons (j05 gC) (.cons (j02 rfl rfl) .nil)))))) (.cons (j02 rfl rfl) (.cons (j02 rfl rfl) (.cons (j02 rfl rfl) (.cons j0l (.cons (j05 gC) .nil))))) rfl rfl rfl rfl rfl) ⟨i+1+1,by omega,by omega,congrArg (fun t=>(⟨_,[.box _ [iv k,iv nn,.sl b z xs],.box _ zLv,.box _ [iv k,iv nn,.ms 4 (i+1+1)],.dead,.row false _ 3 t]⟩:AS)) e.symm⟩
   ·have qC:i+1=ls.length:=by omega
    have e:((ls.take (i+1)).map fun l=>encL (j2Y l bys))=(ls.map fun l=>j2Y l bys).map encL:=by rw[qC,BT,FX];rfl
    refine j0m rfl (j03 (j2V (j03 rfl (j03 rfl (j03 (j0p rfl hD.symm (gA 4 _)) j0h)))) j0h) rfl ?_;rw[jbn,j4T (by rw[AZ];omega),←e]
def jlu:j4Y (.mk 2 n ls) bys=j6l (bys.getD n.toNat (.mk 0 0 [])):=by simp[j4Y,j8H]
def jo7(h:¬k=2):j4Y (.mk k n ls) bys=1+j3J ls bys:=by simp[j4Y,j8H,h]
def jgw(h:ls[i]?=some l):j3J (ls.take (i+1)) bys=j3J (ls.take i) bys+j4Y l bys:=by
 induction ls generalizing i with
 |nil=>simp at h
 |cons a r ih=>
  cases i with
  |zero=>simp at h;subst h;simp[j3J]
  |succ i=>
   have:=ih (i:=i) (by simpa using h)
   simp only[EW,j3J,this];omega
def j8g(ls:List Lv)(i:Nat):j0d (ls.take i)≤j0d ls:=by
 induction ls generalizing i with
 |nil=>simp
 |cons a r ih=>
  cases i with
  |zero=>simp[j0d]
  |succ i=>simp only[EW,j0d];have:=ih i;omega
def jo8(bys:List Lv)(bb:Bool)(bz:Nat)(bxs:List PV)(gD:bz=3∨bxs=[])(gA:LvsP bys bxs)(qE:bys.length≤1000000)(l:Lv):∀v,LvP l v→allF l bys.length=true→j0T l≤100000→Pf C1 381 [v,.sl bb bz bxs] [iv (j4Y l bys)]:=by
 induction l using Lv.ind with
 |_ k nn ls ih=>
 intro v h wA hsz;obtain⟨_,_,_,b,z,xs,⟨rfl,rfl,rfl⟩,rfl,hz,gC,hlen,kE⟩:=h.open;have wB:=gA.len;simp only[j0T] at hsz
 by_cases hk:k=2
 ·subst hk;obtain⟨hE,wD⟩:=jjh wA;obtain⟨n,rfl⟩:∃n:Nat,nn=n:=⟨nn.toNat,by omega⟩
  obtain⟨lc,hA⟩:∃lc,bys[n]?=some lc:=⟨_,AA (by omega)⟩
  obtain⟨v,hv,hl⟩:=gA.at hA;have hc:=jgM lc v hl;have e:j4Y (.mk 2 n ls) bys=j6l lc:=by
   rw[jlu,AQ,show(n:Int).toNat=n by simp,hA]
   rfl
  rw[e];obtain⟨k1,n1,l1,b1,z1,x1,rfl,rfl,qC,hB,qA,gB⟩:=hl.open;refine gR Tryz.func381 ?_;repeat'(first|refine gU ?_|refine VIdx.mk _ hv ?_|refine gZ gD ?_|refine gX hc ?_)<;>conv=>whnf
  all_goals rfl
 ·rw[jo7 hk];refine gR Tryz.func381 ?_;repeat'(refine gU ?_)<;>conv=>whnf
  refine j04 (G:=Nat) (fun i=>[(20,iv i),(5,iv (1+j3J (ls.take i) bys))]) (fun _=>_) (fun i=>i≤ls.length) (fun i=>ls.length-i) 0 (by omega) rfl rfl ?_
  intro i hi;repeat'(first|refine gU ?_|apply gE<;>intro h)<;>conv=>whnf
  ·have hC:i<ls.length:=by omega
   obtain⟨lc,hA⟩:∃lc,ls[i]?=some lc:=⟨_,AA hC⟩;obtain⟨v,hv,hl⟩:=gC.at hA;have hD:=j8g ls (i+1);have wC:=j8g ls i;have qB:j0T lc≤100000:=by
    have h1:=AE hA;have:∀(r:List Lv),lc∈r→j0T lc≤j0d r:=by
     intro r
     induction r with
     |nil=>intro h;simp at h
     |cons a r ih=>
      intro h;simp only[j0d];rcases AN.1 h with rfl|h
      ·omega
      ·have:=ih h;omega
    have:=this ls h1;omega
   have hr:=ih _ (AE hA) _ hl (j5v (jfM wA) hA) qB;have hF:=j3R (ls.take (i+1)) bys;have wE:=j3R (ls.take i) bys;have qD:=jgw (bys:=bys) hA;obtain⟨k1,n1,l1,b1,z1,x1,rfl,rfl,qC,hB,qA,gB⟩:=hl.open;repeat'(first|refine gU ?_|refine VIdx.mk _ hv ?_|refine gZ hz ?_|refine gX hr ?_)<;>conv=>whnf
   refine VAgain.mk _ rfl _ (j0a rfl rfl rfl) ⟨i+1,hC,by omega,?_⟩
   rw[qD,←Int.add_assoc];rfl
  ·rw[BR (by omega)]
   all_goals rfl
def putL(o:Option Lv):List PV:=match o with
 |some x=>[encL x,bv true]
 |none=>[.ag zLv,bv false]
def jmJ(bys:List Lv)(bb:Bool)(bz:Nat)(bxs:List PV)(wB:bz=3∨bxs=[])(gA:LvsP bys bxs)(wC:bys.length≤1000000)(l:Lv)(v:PV)(h:LvP l v):Pf C1 359 [v,.sl bb bz bxs] (putL (Go.Gw.InstF l bys)):=by
 have hr:=j2W l v h bys.length;have hA:=gA.len;rw[←hA] at hr;have hR:∀{i lc},bys[i]?=some lc→∃w,bxs[i]?=some w∧LvP lc w∧Pf C1 106 [w,iv 4] [bv (j0C lc 4)]:=fun qB=>by
  obtain⟨w,hw,hl⟩:=gA.at qB;exact⟨w,hw,hl,j2W _ w hl 4⟩
 have eI:Go.Gw.InstF l bys=if j0C l bys.length=true then(if j7T bys=true then(if j4Y l bys≤64 then some (j2Y l bys) else none) else none) else none:=rfl
 rw[←hA] at eI;obtain⟨k2,n2,b2,z2,x2,he⟩:=j0t (j2Y l bys)
 by_cases c1:j0C l bxs.length=true
 ·rw[if_pos c1] at eI;rw[c1] at hr;have hB:allF l bys.length=true:=by rw[←hA];exact j3h c1
  have hsz:j0T l≤100000:=by
   simp only[j0C,AB,decide_eq_true_eq] at c1;have:=c1.2.2.1;rw[j6P] at this;omega
  have hg:=jo8 bys bb bz bxs wB gA wC l v h hB hsz;have hi:=jol bys bb bz bxs wB gA wC l v h hB;rw[he] at hi;obtain⟨k1,n1,l1,b1,z1,x1,rfl,rfl,hD,gB,wA,hC⟩:=h.open;refine gR Tryz.func359 ?_;repeat'(first|refine gU ?_|refine gX hr ?_)<;>conv=>whnf
  refine j04 (G:=Nat) (fun i=>[(16,iv i)]) (fun _=>_) (fun i=>i≤bys.length∧j7T (bys.drop i)=j7T bys) (fun i=>bys.length-i) 0 ⟨by omega,rfl⟩ rfl rfl ?_
  rintro i ⟨wD,qA⟩;dsimp only at wD qA⊢;repeat'(first|refine gU ?_|apply gE<;>intro h)<;>conv=>whnf
  ·have gC:i<bys.length:=by omega
   obtain⟨lc,qB⟩:∃lc,bys[i]?=some lc:=⟨_,AA gC⟩;obtain⟨w,hw,hl,gD⟩:=hR qB;rw[drop_at qB,j7T] at qA;obtain⟨k3,n3,l3,b3,z3,x3,rfl,rfl,kE,qD,qC,hE⟩:=hl.open;repeat'(first|refine gU ?_|apply gM<;>intro h|refine VIdx.mk _ hw ?_|refine gZ wB ?_|refine gX gD ?_)<;>conv=>whnf
   ·rw[(by assumption:j0C (.mk k3 n3 l3) 4=true),CG] at qA
    exact VAgain.mk _ rfl _ (j0a rfl rfl rfl) ⟨i+1,⟨gC,qA⟩,by omega,rfl⟩
   ·rw[(by assumption:j0C (.mk k3 n3 l3) 4=false),CV] at qA
    rw[←qA,if_neg (by simp)] at eI
    rw[eI];rfl
  ·rw[AV (by omega),j7T] at qA
   repeat'(first|refine gU ?_|apply gE<;>intro h|refine gX hg ?_|refine gX hi ?_)<;>conv=>whnf
   ·rw[←qA,if_pos rfl,if_neg (by omega)] at eI
    rw[eI];rfl
   ·rw[←qA,if_pos rfl,if_pos (by omega)] at eI
    rw[eI];simp only[putL,he];rfl
 ·rw[if_neg c1] at eI;rw[ET] at c1;rw[c1] at hr;rw[eI];obtain⟨k1,n1,l1,b1,z1,x1,rfl,rfl,hD,gB,wA,hC⟩:=h.open;refine gR Tryz.func359 ?_;repeat'(first|refine gU ?_|refine gX hr ?_)<;>conv=>whnf
  all_goals rfl
open Go Go.Am Go.Gw
def RT(f:FuncId)(args:List PV)(t:Tm):Prop:=∃w,TmP t w∧Pf C1 f args [w]
def jpB{f a:Tm}{w:PV}(h:TmP f v)(h':TmP a w)(b:Bool):TmP (.mk k 0 [] [] [f,a]) (.ag [iv k,iv 0,sv [],.sl true 0 [],.sl b 5 [v,w]]):=
 ⟨true,0,[],b,5,[v,w],rfl,.inr rfl,rfl,by simp,.inl rfl,⟨v,[w],rfl,h,w,[],rfl,h',rfl⟩,by simp,by simp,by unfold i64;omega⟩
def appV:PV→List Tm→PV
 |w,[]=>w
 |w,a::r=>appV (.ag [iv 4,iv 0,sv [],.sl true 0 [],.sl true 5 [w,encT a]]) r
def j8s:∀(ts:List Tm) (k n:Int) (s:List UInt8) (b:Bool) (z:Nat) (xs:List PV) (c:Bool) (y:Nat) (ys:List PV),∃k' n' s' b' z' xs' c' y' ys',appV (.ag [iv k,iv n,sv s,.sl b z xs,.sl c y ys]) ts=.ag [iv k',iv n',sv s',.sl b' z' xs',.sl c' y' ys']
 |[],_,_,_,_,_,_,_,_,_=>⟨_,_,_,_,_,_,_,_,_,rfl⟩
 |a::r,k,n,s,b,z,xs,c,y,ys=>by rw[appV];exact j8s r _ _ _ _ _ _ _ _ _
def jfR:∀(ts:List Tm) (w:PV) (a:Tm),appV w (ts++[a])=.ag [iv 4,iv 0,sv [],.sl true 0 [],.sl true 5 [appV w ts,encT a]]
 |[],w,a=>rfl
 |b::r,w,a=>by rw[BY,appV,jfR r,appV]
def jhF:∀{ts:List Tm}{t:Tm}{w:PV},TmP t w→(∀a∈ts,TmW a)→TmP (appF t ts) (appV w ts)
 |[],t,w,h,_=>h
 |a::r,t,w,h,hw=>by
  rw[appF,appV];exact jhF (jpB h (hw a (by simp)) true) fun x hx=>hw x (by simp[hx])
def j8r(t:Tm)(v:PV)(h:TmP t v)(ts:List Tm)(b:Bool)(z:Nat)(xs:List PV)(hz:z=5∨xs=[])(qA:TmsP ts xs)(gB:ts.length≤1000000):Pf C1 70 [v,.sl b z xs] [appV (encT t) ts]:=by
 have hf:=j3u t v h;have hlen:=qA.len;obtain⟨k2,n2,s2,b2,z2,x2,c2,y2,ys2,he⟩:=j06 t;rw[he] at hf⊢;obtain⟨k0,n0,s0,ls0,ts0,b0,z0,xs0,c0,y0,ys0,rfl,rfl,-⟩:=h.open;refine gR Tryz.func70 ?_;repeat'(first|refine gU ?_|refine gX hf ?_)<;>conv=>whnf
 refine j04 (G:=Nat) (fun i=>[(12,iv i)]) (fun i=>[_,_,.box 25 (appV (.ag [iv k2,iv n2,sv s2,.sl b2 z2 x2,.sl c2 y2 ys2]) (ts.take i)).cells]) (fun i=>i≤ts.length) (fun i=>ts.length-i) 0 (by omega) rfl rfl ?_
 intro i hi;obtain⟨k3,n3,s3,b3,z3,x3,c3,y3,ys3,hA⟩:=j8s (ts.take i) k2 n2 s2 b2 z2 x2 c2 y2 ys2;rw[hA];simp only[PV.cells];repeat'(first|refine gU ?_|apply gE<;>intro h)<;>conv=>whnf
 ·have wA:i<ts.length:=by omega
  obtain⟨tc,gA⟩:∃tc,ts[i]?=some tc:=⟨_,AA wA⟩;obtain⟨v,hv,hl⟩:=qA.at gA;have hB:=j3u tc v hl;have e:=jfR (ts.take i) (.ag [iv k2,iv n2,sv s2,.sl b2 z2 x2,.sl c2 y2 ys2]) tc;rw[←take_snoc' gA,hA] at e;obtain⟨k4,n4,s4,b4,z4,x4,c4,y4,ys4,qB⟩:=j06 tc;rw[qB] at hB e;obtain⟨k1,n1,s1,l1,t1,b1,z1,x1,c1,y1,ys1,rfl,rfl,-⟩:=hl.open;repeat'(first|refine gU ?_|refine VIdx.mk _ hv ?_|refine gZ hz ?_|refine j01 hB fun _=>?_|apply gK)<;>conv=>whnf
  exact VAgain.mk _ rfl _ (j0a rfl rfl rfl) ⟨i+1,wA,by omega,congrArg (fun t=>(⟨_,[_,_,.box _ t]⟩:AS)) (congrArg PV.cells e).symm⟩
 ·rw[BR (by omega)] at hA
  rw[hA];rfl
def jfi(l:Lv):Tm:=.mk 2 0 [] [l] []
def jmo(l:Lv):PV:=.ag [iv 2,iv 0,sv [],.sl true 3 [encL l],.sl true 0 []]
def jfj(h:LvP l v):TmP (jfi l) (jmo l):=
 ⟨true,3,[encL l],true,0,[],rfl,.inl rfl,⟨encL l,[],rfl,jeo l v h,rfl⟩,by simp,.inr rfl,rfl,by simp,by simp,by unfold i64;omega⟩
def je3(l:Lv)(v:PV)(h:LvP l v):Pf C1 151 [v] [jmo l]:=by
 have hx:=j8R l v h true 3 rfl;unfold jmo;obtain⟨k2,n2,b2,z2,x2,gA⟩:=j0t l;rw[gA] at hx⊢;obtain⟨k1,n1,l1,b1,z1,x1,rfl,rfl,hB,qA,hA,wA⟩:=h.open;refine gR Tryz.func151 ?_;repeat'(first|refine gU ?_|refine gX hx ?_)<;>conv=>whnf
 all_goals rfl
def j1J:List Lv→List Lv→Option (List Lv)
 |[],_=>some []
 |l::r,bys=>match Go.Gw.InstF l bys with
  |none=>none
  |some x=>(j1J r bys).map (x :: ·)
mutual
def lvT:Tm→List Lv→Option Tm
 | .mk k n s ls ts,bys=>match j1J ls bys with
  |none=>none
  |some ls'=>(lvTs ts bys).map fun ts'=>.mk k n s ls' ts'
def lvTs:List Tm→List Lv→Option (List Tm)
 |[],_=>some []
 |t::r,bys=>match lvT t bys with
  |none=>none
  |some x=>(lvTs r bys).map (x :: ·)
end
def jdt(h:ls[i]?=some l):j1J (ls.drop i) bys=match Go.Gw.InstF l bys with
  |none=>none
  |some x=>(j1J (ls.drop (i+1)) bys).map (x :: ·):=by rw[drop_at h,j1J]
def jk3{t:Tm}(h:ts[i]?=some t):lvTs (ts.drop i) bys=match lvT t bys with
  |none=>none
  |some x=>(lvTs (ts.drop (i+1)) bys).map (x :: ·):=by rw[drop_at h,lvTs]
def jlC(bys:List Lv)(bb:Bool)(bz:Nat)(bxs:List PV)(kG:bz=3∨bxs=[])(qE:LvsP bys bxs)(wG:bys.length≤1000000)(t:Tm):∀v,TmP t v→∀p kk:Int,allT t p kk=true→Pf C1 329 [v,.sl bb bz bxs] (putV (lvT t bys)):=by
 induction t using Tm.ind with
 |_ k nn s ls ts ih=>
 intro v h p kk qD;obtain⟨hG,kF,qA,gH,hF⟩:=j0q qD;obtain⟨hH,qI⟩:=j4H qD;obtain⟨_,_,_,_,_,b,z,xs,c,y,ys,⟨rfl,rfl,rfl,rfl,rfl⟩,rfl,hz,wF,hlen,kI,hy,gF,hlen2,gG,kH⟩:=h.open;have hI:=jmJ bys bb bz bxs kG qE wG
 by_cases h4:4≤k
 ·obtain⟨rfl,rfl,rfl⟩:=j5j qA h4;have hE:xs=[]:=AJ (by simpa using hlen)
  subst hE;have e:lvT (.mk k 0 [] [] ts) bys=(lvTs ts bys).map fun ts'=>.mk k 0 [] [] ts':=by rw[lvT,j1J]
  rw[e];refine gR Tryz.func329 ?_;repeat'(refine gU ?_)<;>conv=>whnf
  refine j04 (G:=Unit) (fun _=>[]) (fun _=>_) (fun _=>True) (fun _=>0) () trivial rfl rfl ?_
  rintro _ _;repeat'(refine gU ?_)<;>conv=>whnf
  refine j04 (G:=List Tm) (fun g=>[(48,iv g.length)]) (fun g=>match g with
    |[]=>[.box 25 [iv k,iv 0,sv [],.sl b z [],.sl c y ys],.box 25 zTm,.box 25 [iv k,iv 0,sv [],.sl true 0 [],.sl true 0 []]]
    |d::r=>[.box 25 [iv k,iv 0,sv [],.sl b z [],.sl c y ys],.box 25 zTm,.box 25 [iv k,iv 0,sv [],.sl true 0 [],.ms 5 (r.length+1)],.dead,.dead,.row false 25 5 ((d::r).map encT)]) (fun g=>g.length≤ts.length∧(lvTs (ts.drop g.length) bys).map (g ++ ·)=lvTs ts bys) (fun g=>ts.length-g.length) [] ⟨by simp,by simp⟩ rfl rfl ?_
  rintro don ⟨hi,hA⟩;have gA:∀(hD:don.length<ts.length),∃tc,ts[don.length]?=some tc∧∃v,ys[don.length]?=some v∧TmP tc v∧Pf C1 329 [v,.sl bb bz bxs] (putV (lvT tc bys)):=fun hD=>by
   obtain⟨tc,wA⟩:∃tc,ts[don.length]?=some tc:=⟨_,AA hD⟩;obtain⟨v,hv,hl⟩:=gF.at wA;exact⟨tc,wA,v,hv,hl,ih _ (AE wA) _ hl _ _ (j2v hF wA)⟩
  have gB:¬don.length<ts.length→lvTs ts bys=some don:=fun hn=>by
   rw[AV (by omega),lvTs] at hA
   simpa using hA.symm
  have qC:∀{tc},ts[don.length]?=some tc→lvT tc bys=none→lvTs ts bys=none:=fun wA h0=>by
   rw[jk3 wA,h0] at hA;simpa using hA.symm
  have qB:∀{tc x},ts[don.length]?=some tc→lvT tc bys=some x→(lvTs (ts.drop (don++[x]).length) bys).map ((don++[x]) ++ ·)=lvTs ts bys:=fun wA h0=>by
   rw[jk3 wA,h0] at hA;rw[←hA];simp[Function.comp_def]
  cases don with
  |nil=>
   repeat'(first|refine gU ?_|apply gE<;>intro h)<;>conv=>whnf
   ·obtain⟨tc,wA,v,hv,hl,hr⟩:=gA (by simp only[AG] at *;omega)
    obtain⟨k1,n1,s1,l1,t1,b1,z1,x1,c1,y1,ys1,rfl,rfl,-⟩:=hl.open;cases h0:lvT (.mk k1 n1 s1 l1 t1) bys with
    |none=>
     rw[h0] at hr;repeat'(first|refine gU ?_|refine VIdx.mk _ hv ?_|refine gZ hy ?_|refine gX hr ?_)<;>conv=>whnf
     rw[qC wA h0];rfl
    |some x=>
     rw[h0] at hr;have wB:=qB wA h0;have e:[x].map encT=[encT x]:=rfl;obtain⟨k2,n2,s2,b2,z2,x2,c2,y2,ys2,he⟩:=j06 x;simp only[putV] at hr;rw[he] at hr e;repeat'(first|refine gU ?_|refine VIdx.mk _ hv ?_|refine gZ hy ?_|refine gX hr ?_)<;>conv=>whnf
     exact VAgain.mk _ rfl _ (j0B (.cons (j02 rfl rfl) (.cons (j02 rfl rfl) (.cons (j02 rfl rfl) (.cons (j02 rfl rfl) (.cons (j02 rfl rfl) (.cons (j05 rfl) .nil)))))) (.cons (j02 rfl rfl) (.cons (j02 rfl rfl) (.cons (j02 rfl rfl) (.cons j0l (.cons j0l (.cons (j05 rfl) .nil)))))) rfl rfl rfl rfl rfl) ⟨[x],⟨by simp only[AC,AG] at *;omega,wB⟩,by simp only[AC,AG] at *;omega,congrArg (fun t=>(⟨_,[.box _ [iv k,iv 0,sv [],.sl b z [],.sl c y ys],.box _ zTm,.box _ [iv k,iv 0,sv [],.sl true 0 [],.ms 5 1],.dead,.dead,.row false _ 5 t]⟩:AS)) e.symm⟩
   ·rw[gB (by simp only[AG] at *;omega)]
    rfl
  |cons d r=>
   have gC:((d::r).map encT).length=r.length+1:=by simp
   have qH:j0Y k≤3:=by unfold j0Y;(repeat' split)<;>omega
   have qG:r.length+1≤3:=by simp only[AC] at hi;omega
   repeat'(first|refine gU ?_|apply gE<;>intro h)<;>conv=>whnf
   ·obtain⟨tc,wA,v,hv,hl,hr⟩:=gA (by simp only[AC] at *;omega)
    obtain⟨k1,n1,s1,l1,t1,b1,z1,x1,c1,y1,ys1,rfl,rfl,-⟩:=hl.open;cases h0:lvT (.mk k1 n1 s1 l1 t1) bys with
    |none=>
     rw[h0] at hr;repeat'(first|refine gU ?_|refine VIdx.mk _ hv ?_|refine gZ hy ?_|refine gX hr ?_)<;>conv=>whnf
     rw[qC wA h0];rfl
    |some x=>
     rw[h0] at hr;have wB:=qB wA h0;have e:(d::(r++[x])).map encT=(d::r).map encT++[encT x]:=by simp
     have hC:((d::r).map encT++[encT x]).all (pur 8)=true:=e▸j0D _ 6;obtain⟨k2,n2,s2,b2,z2,x2,c2,y2,ys2,he⟩:=j06 x;simp only[putV] at hr;rw[he] at hr e hC;repeat'(first|refine gU ?_|refine VIdx.mk _ hv ?_|refine gZ hy ?_|refine gX hr ?_|refine VOk.mk (j0N (w:=80) (r:=140737488355328) gC rfl rfl rfl rfl (by simp only[AC,AG];omega) (by simp only[AC,AG];omega)) ?_)<;>conv=>whnf
     have el:(((d::(r++[x])).length:Nat):Int)=((d::r).length:Nat)+1:=by simp
     have el2:(r++[x]).length+1=r.length+1+1:=by simp
     refine VAgain.mk _ rfl _ (j0B (.cons (j02 rfl rfl) (.cons (j02 rfl rfl) (.cons (j02 rfl rfl) (.cons j0l (.cons j0l (.cons (j05 hC) (.cons (j02 rfl rfl) (.cons (j02 rfl rfl) .nil)))))))) (.cons (j02 rfl rfl) (.cons (j02 rfl rfl) (.cons (j02 rfl rfl) (.cons j0l (.cons j0l (.cons (j05 hC) .nil)))))) rfl rfl rfl rfl rfl) ⟨d::(r++[x]),⟨by simp only[AC,AL,AG] at *;omega,wB⟩,by simp only[AC,AL,AG] at *;omega,?_⟩
     dsimp only;rw[e,el,el2];rfl
   ·rw[gB (by simp only[AC] at *;omega)]
    have kE:((d::r).map encT).all (pur 6)=true:=j0D _ 4;refine j0m rfl (j03 (j2V (j03 rfl (j03 rfl (j03 rfl (j03 rfl (j03 (j0p rfl gC.symm kE) j0h)))))) (j03 rfl j0h)) rfl ?_;simp only[AY,putV];rw[j2O,j1V (by simp)]
    rfl
 ·obtain rfl:=hH (by omega)
  have gD:ys=[]:=AJ (by simpa using hlen2)
  subst gD;have e:lvT (.mk k nn s ls []) bys=(j1J ls bys).map fun ls'=>.mk k nn s ls' []:=by
   rw[lvT];cases j1J ls bys<;>simp[lvTs]
  rw[e];have wH:ls.length≤4:=by
   have h3:j0G k≤1:=by unfold j0G;split<;>omega
   simp only[j2Q] at qA;split at qA
   ·simp at qA;simp[qA.2.2.2]
   ·split at qA
    ·simp at qA;omega
    ·simp only[AB,decide_eq_true_eq] at qA;omega
  refine gR Tryz.func329 ?_;repeat'(refine gU ?_)<;>conv=>whnf
  refine j04 (G:=List Lv) (fun g=>[(25,iv g.length)]) (fun g=>match g with
    |[]=>[.box 25 [iv k,iv nn,sv s,.sl b z xs,.sl c y []],.box 25 zTm,.box 25 [iv k,iv nn,sv s,.sl true 0 [],.sl true 0 []]]
    |d::r=>[.box 25 [iv k,iv nn,sv s,.sl b z xs,.sl c y []],.box 25 zTm,.box 25 [iv k,iv nn,sv s,.ms 5 (r.length+1),.sl true 0 []],.dead,.dead,.row false 86 3 ((d::r).map encL)]) (fun g=>g.length≤ls.length∧(j1J (ls.drop g.length) bys).map (g ++ ·)=j1J ls bys) (fun g=>ls.length-g.length) [] ⟨by simp,by simp⟩ rfl rfl ?_
  rintro don ⟨hi,hA⟩;have gA:∀(hD:don.length<ls.length),∃lc,ls[don.length]?=some lc∧∃v,xs[don.length]?=some v∧LvP lc v∧Pf C1 359 [v,.sl bb bz bxs] (putL (Go.Gw.InstF lc bys)):=fun hD=>by
   obtain⟨lc,hB⟩:∃lc,ls[don.length]?=some lc:=⟨_,AA hD⟩;obtain⟨v,hv,hl⟩:=wF.at hB;exact⟨lc,hB,v,hv,hl,hI _ _ hl⟩
  have gB:¬don.length<ls.length→j1J ls bys=some don:=fun hn=>by
   rw[AV (by omega),j1J] at hA
   simpa using hA.symm
  have qC:∀{lc},ls[don.length]?=some lc→Go.Gw.InstF lc bys=none→j1J ls bys=none:=fun hB h0=>by
   rw[jdt hB,h0] at hA;simpa using hA.symm
  have qB:∀{lc x},ls[don.length]?=some lc→Go.Gw.InstF lc bys=some x→(j1J (ls.drop (don++[x]).length) bys).map ((don++[x]) ++ ·)=j1J ls bys:=fun hB h0=>by
   rw[jdt hB,h0] at hA;rw[←hA];simp[Function.comp_def]
  cases don with
  |nil=>
   repeat'(first|refine gU ?_|apply gE<;>intro h)<;>conv=>whnf
   ·obtain⟨lc,hB,v,hv,hl,hr⟩:=gA (by simp only[AG] at *;omega)
    obtain⟨k1,n1,l1,b1,z1,x1,rfl,rfl,qF,wD,wC,wE⟩:=hl.open;cases h0:Go.Gw.InstF (.mk k1 n1 l1) bys with
    |none=>
     rw[h0] at hr;repeat'(first|refine gU ?_|refine VIdx.mk _ hv ?_|refine gZ hz ?_|refine gX hr ?_)<;>conv=>whnf
     rw[qC hB h0];rfl
    |some x=>
     rw[h0] at hr;have wB:=qB hB h0;have e:[x].map encL=[encL x]:=rfl;obtain⟨k2,n2,b2,z2,x2,he⟩:=j0t x;simp only[putL] at hr;rw[he] at hr e;repeat'(first|refine gU ?_|refine VIdx.mk _ hv ?_|refine gZ hz ?_|refine gX hr ?_)<;>conv=>whnf
     exact VAgain.mk _ rfl _ (j0B (.cons (j02 rfl rfl) (.cons (j02 rfl rfl) (.cons (j02 rfl rfl) (.cons (j02 rfl rfl) (.cons (j02 rfl rfl) (.cons (j05 rfl) .nil)))))) (.cons (j02 rfl rfl) (.cons (j02 rfl rfl) (.cons (j02 rfl rfl) (.cons j0l (.cons j0l (.cons (j05 rfl) .nil)))))) rfl rfl rfl rfl rfl) ⟨[x],⟨by simp only[AC,AG] at *;omega,wB⟩,by simp only[AC,AG] at *;omega,congrArg (fun t=>(⟨_,[.box _ [iv k,iv nn,sv s,.sl b z xs,.sl c y []],.box _ zTm,.box _ [iv k,iv nn,sv s,.ms 5 1,.sl true 0 []],.dead,.dead,.row false _ 3 t]⟩:AS)) e.symm⟩
   ·rw[gB (by simp only[AG] at *;omega)]
    refine j04 (G:=Unit) (fun _=>[]) (fun _=>_) (fun _=>True) (fun _=>0) () trivial rfl rfl ?_
    rintro _ _;repeat'(refine gU ?_)<;>conv=>whnf
    rfl
  |cons d r=>
   have gC:((d::r).map encL).length=r.length+1:=by simp
   have qG:r.length+1≤4:=by simp only[AC] at hi;omega
   repeat'(first|refine gU ?_|apply gE<;>intro h)<;>conv=>whnf
   ·obtain⟨lc,hB,v,hv,hl,hr⟩:=gA (by simp only[AC] at *;omega)
    obtain⟨k1,n1,l1,b1,z1,x1,rfl,rfl,qF,wD,wC,wE⟩:=hl.open;cases h0:Go.Gw.InstF (.mk k1 n1 l1) bys with
    |none=>
     rw[h0] at hr;repeat'(first|refine gU ?_|refine VIdx.mk _ hv ?_|refine gZ hz ?_|refine gX hr ?_)<;>conv=>whnf
     rw[qC hB h0];rfl
    |some x=>
     rw[h0] at hr;have wB:=qB hB h0;have e:(d::(r++[x])).map encL=(d::r).map encL++[encL x]:=by simp
     have hC:((d::r).map encL++[encL x]).all (pur 8)=true:=e▸j0V _ 6;obtain⟨k2,n2,b2,z2,x2,he⟩:=j0t x;simp only[putL] at hr;rw[he] at hr e hC;repeat'(first|refine gU ?_|refine VIdx.mk _ hv ?_|refine gZ hz ?_|refine gX hr ?_|refine VOk.mk (j0N (w:=40) (r:=140737488355328) gC rfl rfl rfl rfl (by simp only[AC,AG];omega) (by simp only[AC,AG];omega)) ?_)<;>conv=>whnf
     have el:(((d::(r++[x])).length:Nat):Int)=((d::r).length:Nat)+1:=by simp
     have el2:(r++[x]).length+1=r.length+1+1:=by simp
     refine VAgain.mk _ rfl _ (j0B (.cons (j02 rfl rfl) (.cons (j02 rfl rfl) (.cons (j02 rfl rfl) (.cons j0l (.cons j0l (.cons (j05 hC) (.cons (j02 rfl rfl) (.cons (j02 rfl rfl) .nil)))))))) (.cons (j02 rfl rfl) (.cons (j02 rfl rfl) (.cons (j02 rfl rfl) (.cons j0l (.cons j0l (.cons (j05 hC) .nil)))))) rfl rfl rfl rfl rfl) ⟨d::(r++[x]),⟨by simp only[AC,AL,AG] at *;omega,wB⟩,by simp only[AC,AL,AG] at *;omega,?_⟩
     dsimp only;rw[e,el,el2];rfl
   ·rw[gB (by simp only[AC] at *;omega)]
    have kE:((d::r).map encL).all (pur 6)=true:=j0V _ 4;refine j04 (G:=Unit) (fun _=>[]) (fun _=>_) (fun _=>True) (fun _=>0) () trivial rfl rfl ?_
    rintro _ _;repeat'(refine gU ?_)<;>conv=>whnf
    refine j0m rfl (j03 (j2V (j03 rfl (j03 rfl (j03 rfl (j03 (j0p rfl gC.symm kE) (j03 rfl j0h)))))) (j03 rfl j0h)) rfl ?_;simp only[AY,putV];rw[j2O,j4T (by simp)]
    rfl
open Go Go.Am Go.Gw
def LvW(l:Lv):Prop:=LvP l (encL l)
def LvP.w(h:LvP l v):LvW l:=jeo _ _ h
def LvsP.ws:∀{ls:List Lv}{xs:List PV},LvsP ls xs→∀l∈ls,LvW l
 |[],_,_,l,hl=>by cases hl
 |a::r,xs,h,l,hl=>by
  simp only[LvsP] at h;obtain⟨v,xs',rfl,h1,h2⟩:=h;rcases AN.1 hl with rfl|hl
  ·exact h1.w
  ·exact LvsP.ws h2 l hl
def jk4:∀{ls:List Lv},(∀l∈ls,LvW l)→LvsP ls (ls.map encL)
 |[],_=>by simp only[CE,LvsP]
 |l::r,h=>by
  simp only[BC,LvsP];exact⟨_,_,rfl,h l (by simp),jk4 fun x hx=>h x (by simp[hx])⟩
def jdz(h:∀l∈ls,LvW l):∃b z xs,j7F ls=.sl b z xs∧(z=3∨xs=[])∧LvsP ls xs:=jjy (jk4 h)
def jbP(hl:ls.length≤3518437208780)(h:∀l∈ls,LvW l):LvW (.mk k n ls):=by
 obtain⟨b,z,xs,e,hz,hx⟩:=jdz h;unfold LvW;rw[jbn,e];exact⟨b,z,xs,rfl,hz,hx,hl⟩
def LvW.args(h:LvW (.mk k n ls)):(∀l∈ls,LvW l)∧ls.length≤3518437208780:=by
 unfold LvW at h;simp only[LvP] at h;obtain⟨b,z,xs,_,hz,hx,hb⟩:=h;exact⟨hx.ws,hb⟩
def ja3(h:∀t∈ts,TmW t):∃b z xs,j8y ts=.sl b z xs∧(z=5∨xs=[])∧TmsP ts xs:=by
 cases ts with
 |nil=>exact⟨_,_,_,rfl,.inr rfl,by simp only[TmsP]⟩
 |cons a r=>exact⟨_,_,_,j1V (by simp),.inl rfl,jaY h⟩
def juL(hn:i64 n)(hs:s.length≤140737488355328)(hl:ls.length≤3518437208780)(h:∀l∈ls,LvW l)(ht:ts.length≤1759218604441)(h':∀t∈ts,TmW t):TmW (.mk k n s ls ts):=by
 obtain⟨b,z,xs,e,hz,hx⟩:=jdz h;obtain⟨c,y,ys,e',hy,hA⟩:=ja3 h';unfold TmW;rw[j2O,e,e'];exact⟨b,z,xs,c,y,ys,rfl,hz,hx,hl,hy,hA,ht,hs,hn⟩
def TmW.parts(h:TmW (.mk k n s ls ts)):i64 n∧s.length≤140737488355328∧ls.length≤3518437208780∧(∀l∈ls,LvW l)∧ts.length≤1759218604441∧∀t∈ts,TmW t:=by
 unfold TmW at h;simp only[TmP] at h;obtain⟨b,z,xs,c,y,ys,_,hz,qA,hb,hy,hA,hc,hs,hn⟩:=h;exact⟨hn,hs,hb,qA.ws,hc,hA.ws⟩
mutual
theorem jok{bys:List Lv}(hb:∀l∈bys,LvW l):∀(l:Lv),LvW l→LvW (j2Y l bys)
 | .mk k n ls,h=>by
  by_cases hk:k=2
  ·subst hk;rw[jgA,AQ];cases e:bys[n.toNat]? with
   |none=>exact jbP (by simp) (by simp)
   |some x=>exact hb x (AE e)
  ·rw[jjS hk,←j7t];obtain⟨h1,h2⟩:=h.args;have:=jjT hb ls h1;exact jbP (by rw[j7t,AZ];exact h2) this
theorem jjT{bys:List Lv}(hb:∀l∈bys,LvW l):∀(ls:List Lv),(∀l∈ls,LvW l)→∀x∈jdr ls bys,LvW x
 |[],_,x,hx=>by cases hx
 |l::r,h,x,hx=>by
  rw[jdr] at hx;rcases AN.1 hx with rfl|hx
  ·exact jok hb l (h l (by simp))
  ·exact jjT hb r (fun l hl=>h l (by simp[hl])) x hx
end
def jsw{x:Lv}(hb:∀l∈bys,LvW l)(hl:LvW l)(h:Go.Gw.InstF l bys=some x):LvW x:=by
 unfold Go.Gw.InstF at h;(repeat' split at h)<;>simp at h
 subst h;exact jok hb l hl
def jjU{bys:List Lv}(hb:∀l∈bys,LvW l):∀{ls xs:List Lv},(∀l∈ls,LvW l)→j1J ls bys=some xs→(∀l∈xs,LvW l)∧xs.length=ls.length
 |[],xs,_,h=>by simp[j1J] at h;subst h;simp
 |l::r,xs,hl,h=>by
  rw[j1J] at h;cases h0:Go.Gw.InstF l bys with
  |none=>rw[h0] at h;simp at h
  |some x=>
   rw[h0] at h;cases h1:j1J r bys with
   |none=>rw[h1] at h;simp at h
   |some ys=>
    rw[h1] at h;simp at h;subst h;obtain⟨a,b⟩:=jjU hb (fun l hA=>hl l (by simp[hA])) h1
    refine⟨?_,by simp[b]⟩
    intro y hy;rcases AN.1 hy with rfl|hy
    ·exact jsw hb (hl l (by simp)) h0
    ·exact a y hy
mutual
theorem jtk{bys:List Lv}(hb:∀l∈bys,LvW l):∀{t x:Tm},TmW t→lvT t bys=some x→TmW x
 | .mk k n s ls ts,x,hw,h=>by
  obtain⟨hn,hs,qA,hl,hA,ht⟩:=hw.parts;rw[lvT] at h;cases h0:j1J ls bys with
  |none=>rw[h0] at h;simp at h
  |some ls'=>
   rw[h0] at h;cases h1:lvTs ts bys with
   |none=>rw[h1] at h;simp at h
   |some ts'=>
    rw[h1] at h;simp at h;subst h;obtain⟨a,b⟩:=jjU hb hl h0;obtain⟨c,d⟩:=js7 hb ht h1;exact juL hn hs (by omega) a (by omega) c
theorem js7{bys:List Lv}(hb:∀l∈bys,LvW l):∀{ts xs:List Tm},(∀t∈ts,TmW t)→lvTs ts bys=some xs→(∀t∈xs,TmW t)∧xs.length=ts.length
 |[],xs,_,h=>by simp[lvTs] at h;subst h;simp
 |t::r,xs,hl,h=>by
  rw[lvTs] at h;cases h0:lvT t bys with
  |none=>rw[h0] at h;simp at h
  |some x=>
   rw[h0] at h;cases h1:lvTs r bys with
   |none=>rw[h1] at h;simp at h
   |some ys=>
    rw[h1] at h;simp at h;subst h;obtain⟨a,b⟩:=js7 hb (fun l hA=>hl l (by simp[hA])) h1
    refine⟨?_,by simp[b]⟩
    intro y hy;rcases AN.1 hy with rfl|hy
    ·exact jtk hb (hl t (by simp)) h0
    ·exact a y hy
end
def j1S(t:Tm)(bys:List Lv):Option Tm:=if j0s t bys.length 1125899906842624=true then match lvT t bys with
  |none=>none
  |some x=>if j0A x≤2000 then some x else none
 else none
def jcW(bys:List Lv)(bb:Bool)(bz:Nat)(bxs:List PV)(gA:bz=3∨bxs=[])(qA:LvsP bys bxs)(wA:bys.length≤1000000)(t:Tm)(v:PV)(h:TmP t v):Pf C1 297 [v,.sl bb bz bxs] (putV (j1S t bys)):=by
 have hA:=qA.len;have hr:=j0R t v h bys.length 1125899906842624;rw[←hA] at hr;have eI:j1S t bys=if j0s t bys.length 1125899906842624=true then match lvT t bys with
  |none=>none
  |some x=>if j0A x≤2000 then some x else none
 else none:=rfl
 rw[←hA] at eI
 by_cases c1:j0s t bxs.length 1125899906842624=true
 ·rw[if_pos c1] at eI;rw[c1] at hr;have hl:=jlC bys bb bz bxs gA qA wA t v h bxs.length _ (j3A c1).2.2.2;have hw:=fun x=>jtk (x:=x) qA.ws h.w
  obtain⟨k1,n1,s1,l1,t1,b1,z1,x1,c1,y1,ys1,rfl,rfl,-⟩:=h.open;cases h0:lvT (.mk k1 n1 s1 l1 t1) bys with
  |none=>
   rw[h0] at hl eI;dsimp only at eI;rw[eI];simp only[putV] at hl;refine gR Tryz.func297 ?_;repeat'(first|refine gU ?_|refine gX hr ?_|refine gX hl ?_)<;>conv=>whnf
   all_goals rfl
  |some x=>
   have hx:=hw x h0;have hn:=j2h x _ hx;rw[h0] at hl eI;dsimp only at eI;rw[eI];simp only[putV] at hl;obtain⟨k2,n2,s2,b2,z2,x2,c2,y2,ys2,he⟩:=j06 x;rw[he] at hl hn
   by_cases c2:j0A x≤2000
   ·rw[if_pos c2];simp only[putV];rw[he];refine gR Tryz.func297 ?_;repeat'(first|refine gU ?_|apply gE<;>intro h|refine gX hr ?_|refine gX hl ?_|refine gX hn ?_)<;>conv=>whnf
    all_goals first|rfl|(exfalso;omega)
   ·rw[if_neg c2];refine gR Tryz.func297 ?_;repeat'(first|refine gU ?_|apply gE<;>intro h|refine gX hr ?_|refine gX hl ?_|refine gX hn ?_)<;>conv=>whnf
    all_goals first|rfl|(exfalso;omega)
 ·rw[if_neg c1] at eI;rw[ET] at c1;rw[c1] at hr;rw[eI];obtain⟨k1,n1,s1,l1,t1,b1,z1,x1,c1,y1,ys1,rfl,rfl,-⟩:=h.open;refine gR Tryz.func297 ?_;repeat'(first|refine gU ?_|refine gX hr ?_)<;>conv=>whnf
  all_goals rfl
open Go Go.Am Go.Gw
def joc(f:FuncId)(cs:List PV)(wC:callable C1.P f=true)(gC:cs.all (pur 8)=true)(p:Tm→Bool)(ts:List Tm)(hf:∀t∈ts,∀v,TmP t v→Pf C1 f (v::cs) [bv (p t)])(b:Bool)(z:Nat)(xs:List PV)(hz:z=5∨xs=[])(wA:TmsP ts xs)(wD:ts.length≤1759218604441):Pf C1 254 [.sl b z xs,.fn f [] cs] [iv (idxT p ts 0)]:=by
 have hlen:=wA.len;refine gR Tryz.func254 ?_;all_goals try conv=>whnf
 refine j04 (G:=Nat) (fun i=>[(8,iv i)]) (fun _=>_) (fun i=>i≤ts.length∧idxT p (ts.drop i) i=idxT p ts 0) (fun i=>ts.length-i) 0 ⟨by omega,rfl⟩ rfl rfl ?_
 rintro i ⟨hi,hA⟩;dsimp only at hi hA⊢;repeat'(first|refine gU ?_|apply gE<;>intro h)<;>conv=>whnf
 ·have qB:i<ts.length:=by omega
  obtain⟨tc,qA⟩:∃tc,ts[i]?=some tc:=⟨_,AA qB⟩;obtain⟨v,hv,hl⟩:=wA.at qA;have hw:=hf _ (AE qA) v hl;obtain⟨k1,n1,s1,l1,t1,b1,z1,x1,c1,y1,ys1,rfl,rfl,qD,hC,hB,hD,gD,wB,gA,gB,qC⟩:=hl.open;rw[drop_at qA,idxT] at hA;repeat'(first|refine VIdx.mk _ hv ?_|refine gZ hz ?_)<;>conv=>whnf
  simp only[wC];refine jfw hw ?_ rfl ?_
  ·show(true&&cs.all (pur 8))=true
   rw[gC];rfl
  repeat'(first|refine gU ?_|apply gM<;>intro h)<;>conv=>whnf
  ·have hp:p (.mk k1 n1 s1 l1 t1)=true:=by assumption
   rw[if_pos hp] at hA;rw[←hA]
  ·have hp:p (.mk k1 n1 s1 l1 t1)=false:=by assumption
   rw[if_neg (by simp[hp])] at hA
   exact VAgain.mk _ rfl _ (j1a rfl) ⟨i+1,⟨qB,hA⟩,by omega,rfl⟩
 ·rw[AV (by omega),idxT] at hA
  rw[←hA]
def jfP(f:FuncId)(cs:List PV)(wA:callable C1.P f=true)(gA:cs.all (pur 7)=true)(hA:cs.all (pur 8)=true)(p:Tm→Bool)(ts:List Tm)(hf:∀t∈ts,∀v,TmP t v→Pf C1 f (v::cs) [bv (p t)])(b:Bool)(z:Nat)(xs:List PV)(hz:z=5∨xs=[])(qA:TmsP ts xs)(hB:ts.length≤1759218604441):Pf C1 197 [.sl b z xs,.fn f [] cs] [bv (ts.any p)]:=by
 have hi:=joc f cs wA hA p ts hf b z xs hz qA hB;refine gR Tryz.func197 ?_;all_goals try conv=>whnf
 refine jfw hi ?_ rfl ?_
 ·show(true&&((true&&cs.all (pur 7))&&true))=true
  rw[gA];rfl
 repeat'(refine gU ?_)<;>conv=>whnf
 rw[←jeA p ts 0]
def jdB:∀(ts:List Tm),jbV ts = !ts.any fun t=>!j8T t
 |[]=>rfl
 |t::r=>by
  rw[jbV,DT,jdB r];cases j8T t<;>simp
def jqX(t:Tm):∀v,TmP t v→Pf C1 337 [v] [bv (j8T t)]:=by
 induction t using Tm.ind with
 |_ k nn s ls ts ih=>
 intro v h;obtain⟨_,_,_,_,_,b,z,xs,c,y,ys,⟨rfl,rfl,rfl,rfl,rfl⟩,rfl,hz,gA,hlen,hB,hy,qA,hlen2,hA,wA⟩:=h.open;have h1:∀t∈ts,∀v,TmP t v→Pf C1 362 [v] [bv (!j8T t)]:=fun t ht v hv=>by
  have hr:=ih t ht v hv;obtain⟨k1,n1,s1,l1,t1,b1,z1,x1,c1,y1,ys1,rfl,rfl,-⟩:=hv.open;refine gR Tryz.func362 ?_;repeat'(first|refine gU ?_|refine gX hr ?_)<;>conv=>whnf
 have ha:=jfP 362 [] rfl rfl rfl (fun t=>!j8T t) ts h1 c y ys hy qA hA
 have e:=jdB ts;refine gR Tryz.func337 ?_;repeat'(first|refine gU ?_|apply gE<;>intro h|refine gX ha ?_)<;>conv=>whnf
 all_goals
  refine j0O ?_;simp only[j8T];first
   |(simp_all;done)
   |(simp_all;intro;omega)
   |(simp_all;omega)
def jbY(t:Tm):Bool:=j0s t 4 1099511627776&&j8T t
def jf1(t:Tm)(v:PV)(h:TmP t v):Pf C1 310 [v] [bv (jbY t)]:=by
 have hr:=j0R t v h 4 1099511627776;have hn:=jqX t v h;have e:jbY t=(j0s t 4 1099511627776&&j8T t):=rfl;obtain⟨k1,n1,s1,l1,t1,b1,z1,x1,c1,y1,ys1,rfl,rfl,-⟩:=h.open;refine gR Tryz.func310 ?_;repeat'(first|refine gU ?_|apply gM<;>intro h|refine gX hr ?_|refine gX hn ?_)<;>conv=>whnf
 all_goals
  refine j0O ?_
  simp_all
def j6Q(t:Tm)(v:PV)(h:TmP t v):∃b z ys,Pf C1 275 [v] [.sl b z ys,bv (jbY t)]:=by
 have hr:=jf1 t v h;cases he:jbY t with
 |false=>
  refine⟨true,0,[],?_⟩;rw[he] at hr;obtain⟨k1,n1,s1,l1,t1,b1,z1,x1,c1,y1,ys1,rfl,rfl,-⟩:=h.open;refine gR Tryz.func275 ?_;repeat'(first|refine gU ?_|refine gX hr ?_)<;>conv=>whnf
  all_goals rfl
 |true=>
  have qA:=he;unfold jbY at qA;rw[AB] at qA;simp only[j0s,AB,decide_eq_true_eq] at qA;obtain⟨⟨-,-,-,qB,wA⟩,hA⟩:=qA;have hsz:sizT t≤2000:=by rw[j2r] at qB;omega
  obtain⟨r,st,⟨ys,rfl,rfl,hp,hl,gA⟩,N,hN⟩:=jgY t v h _ wA hA (by omega)
  have hf:Finds C1 311 [.sl true 0 [],v] [] fun r st=>r=.ret [bufP ys]∧st=bufS ys:=⟨_,_,⟨rfl,rfl⟩,N,hN⟩
  clear hN;refine⟨false,1,ys,?_⟩;obtain⟨y,yr,rfl⟩:∃y yr,ys=y::yr:=by
   cases ys with
   |nil=>simp at gA
   |cons y yr=>exact⟨y,yr,rfl⟩
  have hB:=p68 hp;rw[he] at hr;obtain⟨k1,n1,s1,l1,t1,b1,z1,x1,c1,y1,ys1,rfl,rfl,-⟩:=h.open;refine gR Tryz.func275 ?_;repeat'(first|refine gU ?_|refine gX hr ?_)<;>conv=>whnf
  refine j1d rfl (Finds.mono hf ?_);rintro _ _ ⟨rfl,rfl⟩;refine⟨rfl,?_⟩;refine j4w (.cons (j0o hB) .nil) rfl ?_;all_goals try conv=>whnf
  exact j0m rfl (j03 (j0p (i:=1) (len:=yr.length+1) rfl (by simp) hp) (j03 rfl j0h)) rfl rfl
open Go Go.Am Go.Gw
def jtW(b:Bool)(z:Nat)(xs:List PV):PV:=.fn 298 [] [.cp [.sl b z xs]]
def jdX(b:Bool)(z:Nat)(xs:List PV):Pf C1 259 [.sl b z xs] [jtW b z xs]:=by
 refine gR Tryz.func259 ?_;all_goals try conv=>whnf
 refine j0m rfl rfl rfl ?_;rfl
structure TV where
 k:Int
 n:Int
 s:List UInt8
 b:Bool
 z:Nat
 xs:List PV
 c:Bool
 y:Nat
 ys:List PV
def TV.cs(w:TV):List PV:=[iv w.k,iv w.n,sv w.s,.sl w.b w.z w.xs,.sl w.c w.y w.ys]
def overR(kind:Int):List Tm→Tm→Tm
 |[],o=>o
 |x::r,o=>overR kind r (.mk kind 0 [] [] [x,o])
def ovLP(q e:TV)(b:Bool)(z:Nat)(xs:List PV)(kind:Int)(a c:Code)(s:LpS):SO:=.lp [(13,jtW b z xs),(12,.sl b z xs),(7,.bp 1 0),(11,.ag e.cs),(10,.ag q.cs),(6,.bp 2 0),(4,.bp 3 0),(3,.bp 4 0),(0,iv kind),(1,.ag q.cs),(2,.sl b z xs)] [14,15] a c s
def ovS(lp:SO)(q:TV)(kind:Int)(w:TV):Sto:=[lp,.box 25 w.cs,.box 25 zTm,.box 25 q.cs,.box 3 [iv kind]]
def OvOk(lp:LpS→SO)(q:TV)(kind:Int):Prop:=∀(i:Int) (x:Tm) (v:PV),TmP x v→∀(o:Tm) (w:TV),TmP o (.ag w.cs)→FindsY C1 [.yl 0,iv i,v] (ovS (lp .ready) q kind w) fun r st=>r=.ret [bv true]∧∃w',TmP (.mk kind 0 [] [] [x,o]) (.ag (TV.cs w'))∧st=ovS (lp .ready) q kind w'
def jkV(q e:TV)(kind:Int)(b:Bool)(z:Nat)(xs:List PV)(l:List Tm)(hz:z=5∨xs=[])(gA:TmsP l xs)(hl:l.length≤1000000)(a c:Code)(hY:OvOk (ovLP q e b z xs kind a c) q kind)(o0:Tm)(w0:TV)(hB:TmP o0 (.ag w0.cs)):
  Finds C1 298 [.yl 0,.cp [.sl b z xs]] (ovS (ovLP q e b z xs kind a c .ready) q kind w0) fun r st=>r=.ret []∧∃w',TmP (overR kind l.reverse o0) (.ag (TV.cs w'))∧st=ovS (ovLP q e b z xs kind a c .ready) q kind w':=by
 have hlen:=gA.len;refine gR Tryz.func298 ?_;repeat'(refine gU ?_)<;>conv=>whnf
 refine j04 (G:=Nat×Tm×TV) (fun g=>[(3,iv ((g.1:Int)-1))]) (fun g=>ovS (ovLP q e b z xs kind a c .ready) q kind g.2.2) (fun g=>g.1≤l.length∧TmP g.2.1 (.ag g.2.2.cs)∧overR kind (l.take g.1).reverse g.2.1=overR kind l.reverse o0) (fun g=>g.1) (xs.length,o0,w0) ⟨by dsimp only;omega,hB,by dsimp only;rw[BR (by omega)]⟩ rfl rfl ?_
 rintro⟨k,o,w⟩ ⟨hk,hw,hA⟩;dsimp only at hk hw hA⊢;repeat'(first|refine gU ?_|apply gE<;>intro h)<;>conv=>whnf
 ·obtain⟨j,rfl⟩:∃j,k=j+1:=⟨k-1,by omega⟩
  obtain⟨x,hx⟩:∃x,l[j]?=some x:=⟨_,AA (by omega)⟩
  obtain⟨v,hv,wA⟩:=gA.at hx;have hy:=hY ((((j+1:Nat):Int))-1) x v wA o w hw;have gB:(((j+1:Nat):Int)-1).toNat=j:=by omega
  have qA:overR kind (l.take j).reverse (.mk kind 0 [] [] [x,o])=overR kind l.reverse o0:=by
   rw[←hA,take_snoc' hx,List.reverse_append];rfl
  obtain⟨k1,n1,s1,l1,t1,b1,z1,x1,c1,y1,ys1,rfl,rfl,-⟩:=wA.open;refine VNat.nonneg (by omega) ?_
  rw[gB];repeat'(first|refine VIdx.mk _ hv ?_|refine gZ hz ?_)<;>conv=>whnf
  refine j3k rfl (.cons (j0Q rfl rfl) (.cons (j07 rfl rfl) (.cons (j07 rfl rfl) (.cons (j07 rfl rfl) (.cons (j07 rfl rfl) .nil))))) rfl rfl rfl rfl (j1W hy ?_);rintro r st ⟨rfl,w',qB,rfl⟩;refine j1R (st':=ovS (ovLP q e b z xs kind a c .ready) q kind w') (.cons (j0Q rfl rfl) (.cons (j07 rfl rfl) (.cons (j07 rfl rfl) (.cons (j07 rfl rfl) (.cons (j07 rfl rfl) .nil))))) rfl rfl (by kernel_rfl) ?_
  repeat'(refine gU ?_)<;>conv=>whnf
  have ei:((j+1:Nat):Int)-1-1=(j:Int)-1:=by omega
  rw[ei];exact VAgain.mk _ rfl _ (j1a rfl) ⟨(j,_,w'),⟨by omega,qB,qA⟩,by omega,rfl⟩
 ·obtain rfl:k=0:=by omega
  rw[EC,GA,overR] at hA;rw[←hA];exact⟨rfl,w,hw,rfl⟩
def jr4(kind:Int)(t:Tm)(v:PV)(h:TmP t v)(l:List Tm)(b:Bool)(z:Nat)(xs:List PV)(hz:z=5∨xs=[])(qB:TmsP l xs)(hl:l.length≤1000000):RT 215 [iv kind,v,.sl b z xs] (overR kind l.reverse t):=by
 have hf:=j3u t v h;have hC:=jdX b z xs;have gA:=h.w;unfold TmW at gA;obtain⟨k2,n2,s2,b2,z2,x2,c2,y2,ys2,he⟩:=j06 t;rw[he] at hf gA;obtain⟨k0,nn0,s0,ls0,ts0,b0,z0,xs0,c0,y0,ys0,rfl,rfl,-⟩:=h.open;have hA:Finds C1 215 [iv kind,.ag [iv k0,iv nn0,sv s0,.sl b0 z0 xs0,.sl c0 y0 ys0],.sl b z xs] [] fun r _=>∃w,TmP (overR kind l.reverse (.mk k0 nn0 s0 ls0 ts0)) w∧r=.ret [w]:=by
  refine gR Tryz.func215 ?_;repeat'(first|refine gU ?_|refine gX hf ?_|refine gX hC ?_)<;>conv=>whnf
  refine j1e (st0:=ovS (ovLP ⟨k0,nn0,s0,b0,z0,xs0,c0,y0,ys0⟩ ⟨k2,n2,s2,b2,z2,x2,c2,y2,ys2⟩ b z xs kind _ _ .ready) ⟨k0,nn0,s0,b0,z0,xs0,c0,y0,ys0⟩ kind ⟨k2,n2,s2,b2,z2,x2,c2,y2,ys2⟩) (args0:=[.yl 0,.cp [.sl b z xs]]) rfl rfl (.cons (j07 rfl rfl) (.cons (j07 rfl rfl) (.cons (j07 rfl rfl) (.cons (j07 rfl rfl) (.cons (j0Q rfl rfl) .nil))))) rfl rfl rfl rfl (Finds.mono (jkV ⟨k0,nn0,s0,b0,z0,xs0,c0,y0,ys0⟩ ⟨k2,n2,s2,b2,z2,x2,c2,y2,ys2⟩ kind b z xs l hz qB hl _ _ ?_ (.mk k0 nn0 s0 ls0 ts0) ⟨k2,n2,s2,b2,z2,x2,c2,y2,ys2⟩ gA) ?_)
  ·intro i x v wA o w hw;have hB:=j3u x v wA;have qA:=wA.w;unfold TmW at qA;obtain⟨k8,n8,s8,b8,z8,x8,c8,y8,ys8,wB⟩:=j06 x;rw[wB] at hB qA;obtain⟨k1,n1,s1,l1,t1,b1,z1,x1,c1,y1,ys1,rfl,rfl,-⟩:=wA.open;refine j2d rfl rfl ?_;repeat'(first|refine gU ?_|refine j01 hB fun _=>?_|apply gK)<;>conv=>whnf
   refine⟨rfl,⟨kind,0,[],true,0,[],true,5,[.ag [iv k8,iv n8,sv s8,.sl b8 z8 x8,.sl c8 y8 ys8],.ag w.cs]⟩,jpB qA hw true,by kernel_rfl⟩
  ·rintro r st ⟨rfl,w',gB,rfl⟩;refine j4w (.cons (j0Q rfl rfl) (.cons (j07 rfl rfl) (.cons (j07 rfl rfl) (.cons (j07 rfl rfl) (.cons (j07 rfl rfl) .nil))))) rfl ?_;repeat'(refine gU ?_)<;>conv=>whnf
   exact⟨_,gB,rfl⟩
 obtain⟨r,st,⟨w,hw,rfl⟩,N,hN⟩:=hA;exact⟨w,hw,⟨_,st,rfl,N,hN⟩⟩
def jrS(t:Tm)(v:PV)(h:TmP t v)(l:List Tm)(b:Bool)(z:Nat)(xs:List PV)(hz:z=5∨xs=[])(hA:TmsP l xs)(hl:l.length≤1000000):RT 158 [v,.sl b z xs] (overR 6 l.reverse t):=by
 obtain⟨w,hw,hp⟩:=jr4 6 t v h l b z xs hz hA hl;refine⟨w,hw,?_⟩;obtain⟨k1,n1,s1,l1,t1,b1,z1,x1,c1,y1,ys1,rfl,rfl,-⟩:=h.open;cases hw.c;refine gR Tryz.func158 ?_;repeat'(first|refine gU ?_|refine gX hp ?_)<;>conv=>whnf
 all_goals rfl

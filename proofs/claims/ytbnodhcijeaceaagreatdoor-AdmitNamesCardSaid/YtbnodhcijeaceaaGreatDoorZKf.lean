/- Levels: made, compared, with others in the parameters' places. -/
import Derived.Test.YtbnodhcijeaceaaGreatDoorZFc
import Derived.Test.YtbnodhcijeaceaaGreatDoorZKc
set_option linter.all false
set_option maxHeartbeats 2000000
set_option maxRecDepth 100000
namespace Go.Proofs.YtbnodhcijeaceaaGreatDoor
open Go Go.Am Go.Gw
def jih(l:Lv):Lv:=.mk 3 0 [l]
def jnt(l m:Lv):Lv:=.mk 5 0 [l,m]
def jc7(l:Lv):Bool:=leqF l (.mk 1 0 [])
def j9V(l m:Lv):Bool:=leqF l m&&leqF m l
def j8S(l m:Lv):Lv:=if jc7 m=true then .mk 1 0 [] else if leqF l m=true then m else jnt l m
theorem jsv(n:Int):LvP (.mk 1 n []) (.ag [iv 1,iv n,.sl true 0 []]):=⟨true,0,[],rfl,.inr rfl,by simp[LvsP],by simp⟩
theorem jpf(l:Lv)(v:PV)(h:LvP l v):Pf C1 153 [v] [encL (jih l)]:=by
 have hm:=jjt 3 [l] true 3 [v] (.inl rfl) ⟨v,[],rfl,h,rfl⟩ (by simp)
 have e:encL (jih l)=encL (.mk 3 0 [l]):=rfl;rw[e];obtain⟨k2,n2,b2,z2,x2,he⟩:=j0A (.mk 3 0 [l]);rw[he] at hm⊢;obtain⟨k1,n1,l1,b1,z1,x1,rfl,rfl,hz1,hxs1,hlen1,hbd1⟩:=h.open;refine j00 Tryz.func153 rfl rfl rfl ?_;repeat'(first|refine gU ?_|refine gX hm ?_)<;>conv=>whnf
 rfl
theorem jpd(l:Lv)(v:PV)(h:LvP l v)(m:Lv)(w:PV)(h':LvP m w):Pf C1 102 [v,w] [encL (jnt l m)]:=by
 have hm:=jjt 5 [l,m] true 3 [v,w] (.inl rfl) ⟨v,[w],rfl,h,w,[],rfl,h',rfl⟩ (by simp)
 have e:encL (jnt l m)=encL (.mk 5 0 [l,m]):=rfl;rw[e];obtain⟨k2,n2,b2,z2,x2,he⟩:=j0A (.mk 5 0 [l,m]);rw[he] at hm⊢;obtain⟨k1,n1,l1,b1,z1,x1,rfl,rfl,hz1,hxs1,hlen1,hbd1⟩:=h.open;obtain⟨k3,n3,l3,b3,z3,x3,rfl,rfl,hz3,hxs3,hlen3,hbd3⟩:=h'.open;refine j00 Tryz.func102 rfl rfl rfl ?_;repeat'(first|refine gU ?_|refine gX hm ?_)<;>conv=>whnf
 rfl
theorem jdE(l:Lv)(v:PV)(h:LvP l v):Pf C1 50 [v] [bv (jc7 l)]:=by
 have hn:=joc 0;have hq:=jer l (.mk 1 0 []) v _ h (jsv 0);have e:jc7 l=leqF l (.mk 1 0 []):=rfl;rw[e];obtain⟨k1,n1,l1,b1,z1,x1,rfl,rfl,hz1,hxs1,hlen1,hbd1⟩:=h.open;refine j00 Tryz.func50 rfl rfl rfl ?_;repeat'(first|refine gU ?_|refine j01 hn fun _=>?_|refine j01 hq fun _=>?_|apply gK)<;>conv=>whnf
 all_goals rfl
theorem jfe(l:Lv)(v:PV)(h:LvP l v)(m:Lv)(w:PV)(h':LvP m w):Pf C1 204 [v,w] [bv (j9V l m)]:=by
 have h1:=jer l m v w h h';have h2:=jer m l w v h' h;have e:j9V l m=(leqF l m&&leqF m l):=rfl;obtain⟨k1,n1,l1,b1,z1,x1,rfl,rfl,hz1,hxs1,hlen1,hbd1⟩:=h.open;obtain⟨k3,n3,l3,b3,z3,x3,rfl,rfl,hz3,hxs3,hlen3,hbd3⟩:=h'.open;refine j00 Tryz.func204 rfl rfl rfl ?_;repeat'(first|refine gU ?_|apply gM<;>intro h|refine gX h1 ?_|refine gX h2 ?_)<;>conv=>whnf
 all_goals
  refine j2g ?_
  simp_all
theorem jfA(l:Lv)(v:PV)(h:LvP l v)(m:Lv)(w:PV)(h':LvP m w):Pf C1 51 [v,w] [encL (j8S l m)]:=by
 have hz:=jdE m w h';have hq:=jer l m v w h h';have hn:=joc 0;have hx:=j8q m w h' true 3 rfl;have hi:=jpd l v h m w h';have e:j8S l m=if jc7 m=true then .mk 1 0 [] else if leqF l m=true then m else jnt l m:=rfl
 obtain⟨k2,n2,b2,z2,x2,he2⟩:=j0A m;obtain⟨k4,n4,b4,z4,x4,he4⟩:=j0A (jnt l m);obtain⟨k1,n1,l1,b1,z1,x1,rfl,rfl,hz1,hxs1,hlen1,hbd1⟩:=h.open;obtain⟨k3,n3,l3,b3,z3,x3,rfl,rfl,hz3,hxs3,hlen3,hbd3⟩:=h'.open
 by_cases c1:jc7 (.mk k3 n3 l3)=true
 ·rw[e,if_pos c1];rw[c1] at hz;refine j00 Tryz.func51 rfl rfl rfl ?_;repeat'(first|refine gU ?_|refine gX hz ?_|refine gX hn ?_)<;>conv=>whnf
  all_goals rfl
 ·rw[e,if_neg c1];rw[Bool.not_eq_true] at c1;rw[c1] at hz
  by_cases c2:leqF (.mk k1 n1 l1) (.mk k3 n3 l3)=true
  ·rw[if_pos c2];rw[c2] at hq;rw[he2] at hx⊢;refine j00 Tryz.func51 rfl rfl rfl ?_;repeat'(first|refine gU ?_|refine gX hz ?_|refine gX hq ?_|refine gX hx ?_)<;>conv=>whnf
   all_goals rfl
  ·rw[if_neg c2];rw[Bool.not_eq_true] at c2;rw[c2] at hq;rw[he4] at hi⊢;refine j00 Tryz.func51 rfl rfl rfl ?_;repeat'(first|refine gU ?_|refine gX hz ?_|refine gX hq ?_|refine gX hi ?_)<;>conv=>whnf
   all_goals rfl
theorem j6R:∀(ls bys:List Lv),jcX ls bys=ls.map fun l=>j2F l bys
 |[],_=>rfl
 |l::r,bys=>by rw[jcX,j6R r bys];rfl
variable{k n p:Int}{bys ls:List Lv}{ts:List Tm}{s:List UInt8}{l:Lv}{i:Nat}{v:PV}
theorem jgg:j2F (.mk 2 n ls) bys=bys.getD n.toNat (.mk 0 0 []):=by simp[j2F,jek]
theorem jjg(h:¬k=2):j2F (.mk k n ls) bys=.mk k n (ls.map fun l=>j2F l bys):=by simp[j2F,jek,h,j6R]
theorem jiG(h:allF (.mk 2 n ls) p=true):0≤n∧n<p:=by
 simp only[allF,Bool.and_eq_true] at h;have h1:=h.1;simp only[ja4] at h1;split at h1
 ·simpa using h1
 ·simp at h1
theorem jfr(h:allF (.mk k n ls) p=true):j4p ls p=true:=by
 simp only[allF,Bool.and_eq_true] at h;exact h.2
theorem jmi(h:j4p ls p=true)(e:ls[i]?=some l):allF l p=true:=j5a h e
theorem jnA(bys:List Lv)(bb:Bool)(bz:Nat)(bxs:List PV)(hbz:bz=3∨bxs=[])(hbxs:LvsP bys bxs)(hbb:bys.length≤1000000)(l:Lv):∀v,LvP l v→allF l bys.length=true→Pf C1 382 [v,.sl bb bz bxs] [encL (j2F l bys)]:=by
 induction l using Lv.ind with
 |_ k nn ls ih=>
 intro v h hall;obtain⟨_,_,_,b,z,xs,⟨rfl,rfl,rfl⟩,rfl,hz,hxs,hlen,hbd⟩:=h.open;have hlenb:=hbxs.len
 by_cases hk:k=2
 ·subst hk;obtain⟨hn0,hn1⟩:=jiG hall;obtain⟨n,rfl⟩:∃n:Nat,nn=n:=⟨nn.toNat,by omega⟩
  obtain⟨lc,hlc⟩:∃lc,bys[n]?=some lc:=⟨_,List.getElem?_eq_getElem (by omega)⟩
  obtain⟨v,hv,hl⟩:=hbxs.at hlc;have hc:=j8X lc v hl;have e:j2F (.mk 2 n ls) bys=lc:=by
   rw[jgg,List.getD_eq_getElem?_getD,show(n:Int).toNat=n by simp,hlc]
   rfl
  rw[e];obtain⟨k2,n2,b2,z2,x2,he⟩:=j0A lc;rw[he] at hc⊢;obtain⟨k1,n1,l1,b1,z1,x1,rfl,rfl,hz1,hxs1,hlen1,hbd1⟩:=hl.open;refine j00 Tryz.func382 rfl rfl rfl ?_;repeat'(first|refine gU ?_|refine VIdx.mk _ hv ?_|refine gZ hbz ?_|refine gX hc ?_)<;>conv=>whnf
  rfl
 ·rw[jjg hk];refine j00 Tryz.func382 rfl rfl rfl ?_;repeat'(refine gU ?_)<;>conv=>whnf
  refine j03 (G:=Nat) (fun i=>[(25,iv i)]) (fun i=>match i with
    |0=>[.box 86 [iv k,iv nn,.sl b z xs],.box 86 zLv,.box 86 [iv k,iv nn,.sl true 0 []]]
    |n+1=>[.box 86 [iv k,iv nn,.sl b z xs],.box 86 zLv,.box 86 [iv k,iv nn,.ms 4 (n+1)],.dead,.row false 86 3 ((ls.take (n+1)).map fun l=>encL (j2F l bys))]) (fun i=>i≤ls.length) (fun i=>ls.length-i) 0 (by omega) rfl rfl ?_
  intro i hi;have hround:∀(hi':i<ls.length),∃lc,ls[i]?=some lc∧∃v,xs[i]?=some v∧LvP lc v∧Pf C1 382 [v,.sl bb bz bxs] [encL (j2F lc bys)]:=fun hi'=>by
   obtain⟨lc,hlc⟩:∃lc,ls[i]?=some lc:=⟨_,List.getElem?_eq_getElem hi'⟩;obtain⟨v,hv,hl⟩:=hxs.at hlc;exact⟨lc,hlc,v,hv,hl,ih _ (List.mem_of_getElem? hlc) _ hl (jmi (jfr hall) hlc)⟩
  have hpure:∀(q:Nat) (n:Nat),((ls.take n).map fun l=>encL (j2F l bys)).all (pur (q+2))=true:=fun q n=>by
   rw[List.all_eq_true]
   intro x hx;obtain⟨l,_,rfl⟩:=List.mem_map.1 hx;exact jfR _ q
  cases i with
  |zero=>
   repeat'(first|refine gU ?_|apply gE<;>intro h)<;>conv=>whnf
   ·obtain⟨lc,hlc,v,hv,hl,hpl⟩:=hround (by omega)
    have e:((ls.take (0+1)).map fun l=>encL (j2F l bys))=[encL (j2F lc bys)]:=by rw[take_snoc' hlc];rfl
    obtain⟨k2,n2,b2,z2,x2,he⟩:=j0A (j2F lc bys);rw[he] at hpl e;obtain⟨k1,n1,l1,b1,z1,x1,rfl,rfl,hz1,hxs1,hlen1,hbd1⟩:=hl.open;refine VIdx.mk _ hv (VOk.mk (j0N rfl hz) ?_);repeat'(first|refine gU ?_|refine j01 hpl fun _=>?_|apply gK)<;>conv=>whnf
    exact VAgain.mk _ rfl _ (j0L (.cons (j02 rfl rfl) (.cons (j02 rfl rfl) (.cons (j02 rfl rfl) (.cons (j02 rfl rfl) (.cons (j08 rfl) .nil))))) (.cons (j02 rfl rfl) (.cons (j02 rfl rfl) (.cons (j02 rfl rfl) (.cons j0i (.cons (j08 rfl) .nil))))) rfl rfl rfl rfl rfl) ⟨1,by omega,by omega,congrArg (fun t=>(⟨_,[.box _ [iv k,iv nn,.sl b z xs],.box _ zLv,.box _ [iv k,iv nn,.ms 4 1],.dead,.row false _ 3 t]⟩:AS)) e.symm⟩
   ·obtain rfl:ls=[]:=List.eq_nil_of_length_eq_zero (by omega)
    rfl
  |succ i=>
   have hln:((ls.take (i+1)).map fun l=>encL (j2F l bys)).length=i+1:=by simp;omega
   repeat'(first|refine gU ?_|apply gE<;>intro h)<;>conv=>whnf
   ·obtain⟨lc,hlc,v,hv,hl,hpl⟩:=hround (by omega)
    have e:((ls.take (i+1+1)).map fun l=>encL (j2F l bys))=((ls.take (i+1)).map fun l=>encL (j2F l bys))++[encL (j2F lc bys)]:=by rw[take_snoc' hlc];simp
    have hp8:(((ls.take (i+1)).map fun l=>encL (j2F l bys))++[encL (j2F lc bys)]).all (pur 8)=true:=e▸hpure 6 _
    obtain⟨k2,n2,b2,z2,x2,he⟩:=j0A (j2F lc bys);rw[he] at hpl e hp8;obtain⟨k1,n1,l1,b1,z1,x1,rfl,rfl,hz1,hxs1,hlen1,hbd1⟩:=hl.open;refine VIdx.mk _ hv (VOk.mk (j0N rfl hz) ?_);repeat'(first|refine gU ?_|refine j01 hpl fun _=>?_|refine VOk.mk (j1h (w:=40) (r:=140737488355328) hln rfl rfl rfl rfl (by simp only[List.length_cons,List.length_nil];omega) (by simp only[List.length_cons,List.length_nil];omega)) ?_|apply gK)<;>conv=>whnf
    exact VAgain.mk _ rfl _ (j0L (.cons (j02 rfl rfl) (.cons (j02 rfl rfl) (.cons (j02 rfl rfl) (.cons j0i (.cons (j08 hp8) (.cons (j02 rfl rfl) .nil)))))) (.cons (j02 rfl rfl) (.cons (j02 rfl rfl) (.cons (j02 rfl rfl) (.cons j0i (.cons (j08 hp8) .nil))))) rfl rfl rfl rfl rfl) ⟨i+1+1,by omega,by omega,congrArg (fun t=>(⟨_,[.box _ [iv k,iv nn,.sl b z xs],.box _ zLv,.box _ [iv k,iv nn,.ms 4 (i+1+1)],.dead,.row false _ 3 t]⟩:AS)) e.symm⟩
   ·have hi':i+1=ls.length:=by omega
    have e:((ls.take (i+1)).map fun l=>encL (j2F l bys))=(ls.map fun l=>j2F l bys).map encL:=by rw[hi',List.take_length,List.map_map];rfl
    refine j0n rfl (j04 (j5z (j04 rfl (j04 rfl (j04 (j0D rfl hln.symm (hpure 4 _)) j0m)))) j0m) rfl ?_;rw[jaT,j7Y (by rw[List.length_map];omega),←e]
theorem jkW:j4E (.mk 2 n ls) bys=j6r (bys.getD n.toNat (.mk 0 0 [])):=by simp[j4E,j8f]
theorem jno(h:¬k=2):j4E (.mk k n ls) bys=1+j3s ls bys:=by simp[j4E,j8f,h]
theorem jga(h:ls[i]?=some l):j3s (ls.take (i+1)) bys=j3s (ls.take i) bys+j4E l bys:=by
 induction ls generalizing i with
 |nil=>simp at h
 |cons a r ih=>
  cases i with
  |zero=>simp at h;subst h;simp[j3s]
  |succ i=>
   have:=ih (i:=i) (by simpa using h)
   simp only[List.take_succ_cons,j3s,this];omega
theorem j7F(ls:List Lv)(i:Nat):j0c (ls.take i)≤j0c ls:=by
 induction ls generalizing i with
 |nil=>simp
 |cons a r ih=>
  cases i with
  |zero=>simp[j0c]
  |succ i=>simp only[List.take_succ_cons,j0c];have:=ih i;omega
theorem jnp(bys:List Lv)(bb:Bool)(bz:Nat)(bxs:List PV)(hbz:bz=3∨bxs=[])(hbxs:LvsP bys bxs)(hbb:bys.length≤1000000)(l:Lv):∀v,LvP l v→allF l bys.length=true→j0M l≤100000→Pf C1 381 [v,.sl bb bz bxs] [iv (j4E l bys)]:=by
 induction l using Lv.ind with
 |_ k nn ls ih=>
 intro v h hall hsz;obtain⟨_,_,_,b,z,xs,⟨rfl,rfl,rfl⟩,rfl,hz,hxs,hlen,hbd⟩:=h.open;have hlenb:=hbxs.len;simp only[j0M] at hsz
 by_cases hk:k=2
 ·subst hk;obtain⟨hn0,hn1⟩:=jiG hall;obtain⟨n,rfl⟩:∃n:Nat,nn=n:=⟨nn.toNat,by omega⟩
  obtain⟨lc,hlc⟩:∃lc,bys[n]?=some lc:=⟨_,List.getElem?_eq_getElem (by omega)⟩
  obtain⟨v,hv,hl⟩:=hbxs.at hlc;have hc:=jgr lc v hl;have e:j4E (.mk 2 n ls) bys=j6r lc:=by
   rw[jkW,List.getD_eq_getElem?_getD,show(n:Int).toNat=n by simp,hlc]
   rfl
  rw[e];obtain⟨k1,n1,l1,b1,z1,x1,rfl,rfl,hz1,hxs1,hlen1,hbd1⟩:=hl.open;refine j00 Tryz.func381 rfl rfl rfl ?_;repeat'(first|refine gU ?_|refine VIdx.mk _ hv ?_|refine gZ hbz ?_|refine gX hc ?_)<;>conv=>whnf
  all_goals rfl
 ·rw[jno hk];refine j00 Tryz.func381 rfl rfl rfl ?_;repeat'(refine gU ?_)<;>conv=>whnf
  refine j03 (G:=Nat) (fun i=>[(20,iv i),(5,iv (1+j3s (ls.take i) bys))]) (fun _=>_) (fun i=>i≤ls.length) (fun i=>ls.length-i) 0 (by omega) rfl rfl ?_
  intro i hi;repeat'(first|refine gU ?_|apply gE<;>intro h)<;>conv=>whnf
  ·have hi':i<ls.length:=by omega
   obtain⟨lc,hlc⟩:∃lc,ls[i]?=some lc:=⟨_,List.getElem?_eq_getElem hi'⟩;obtain⟨v,hv,hl⟩:=hxs.at hlc;have hsz1:=j7F ls (i+1);have hsz2:=j7F ls i;have hszc:j0M lc≤100000:=by
    have h1:=List.mem_of_getElem? hlc;have:∀(r:List Lv),lc∈r→j0M lc≤j0c r:=by
     intro r
     induction r with
     |nil=>intro h;simp at h
     |cons a r ih=>
      intro h;simp only[j0c];rcases List.mem_cons.1 h with rfl|h
      ·omega
      ·have:=ih h;omega
    have:=this ls h1;omega
   have hr:=ih _ (List.mem_of_getElem? hlc) _ hl (j5a (jfr hall) hlc) hszc;have hb1:=j3B (ls.take (i+1)) bys;have hb2:=j3B (ls.take i) bys;have hsn:=jga (bys:=bys) hlc;obtain⟨k1,n1,l1,b1,z1,x1,rfl,rfl,hz1,hxs1,hlen1,hbd1⟩:=hl.open;repeat'(first|refine gU ?_|refine VIdx.mk _ hv ?_|refine gZ hz ?_|refine gX hr ?_)<;>conv=>whnf
   refine VAgain.mk _ rfl _ (j0a rfl rfl rfl) ⟨i+1,hi',by omega,?_⟩
   rw[hsn,←Int.add_assoc];rfl
  ·rw[List.take_of_length_le (by omega)]
   all_goals rfl
def putL(o:Option Lv):List PV:=match o with
 |some x=>[encL x,bv true]
 |none=>[.ag zLv,bv false]
theorem jm6(bys:List Lv)(bb:Bool)(bz:Nat)(bxs:List PV)(hbz:bz=3∨bxs=[])(hbxs:LvsP bys bxs)(hbb:bys.length≤1000000)(l:Lv)(v:PV)(h:LvP l v):Pf C1 359 [v,.sl bb bz bxs] (putL (Go.Gw.InstF l bys)):=by
 have hr:=j2D l v h bys.length;have hlenb:=hbxs.len;rw[←hlenb] at hr;have hR:∀{i lc},bys[i]?=some lc→∃w,bxs[i]?=some w∧LvP lc w∧Pf C1 106 [w,iv 4] [bv (j0x lc 4)]:=fun hlc=>by
  obtain⟨w,hw,hl⟩:=hbxs.at hlc;exact⟨w,hw,hl,j2D _ w hl 4⟩
 have eI:Go.Gw.InstF l bys=if j0x l bys.length=true then(if j7s bys=true then(if j4E l bys≤64 then some (j2F l bys) else none) else none) else none:=rfl
 rw[←hlenb] at eI;obtain⟨k2,n2,b2,z2,x2,he⟩:=j0A (j2F l bys)
 by_cases c1:j0x l bxs.length=true
 ·rw[if_pos c1] at eI;rw[c1] at hr;have hall:allF l bys.length=true:=by rw[←hlenb];exact j2S c1
  have hsz:j0M l≤100000:=by
   simp only[j0x,Bool.and_eq_true,decide_eq_true_eq] at c1;have:=c1.2.2.1;rw[j8u] at this;omega
  have hg:=jnp bys bb bz bxs hbz hbxs hbb l v h hall hsz;have hi:=jnA bys bb bz bxs hbz hbxs hbb l v h hall;rw[he] at hi;obtain⟨k1,n1,l1,b1,z1,x1,rfl,rfl,hz1,hxs1,hlen1,hbd1⟩:=h.open;refine j00 Tryz.func359 rfl rfl rfl ?_;repeat'(first|refine gU ?_|refine gX hr ?_)<;>conv=>whnf
  refine j03 (G:=Nat) (fun i=>[(16,iv i)]) (fun _=>_) (fun i=>i≤bys.length∧j7s (bys.drop i)=j7s bys) (fun i=>bys.length-i) 0 ⟨by omega,rfl⟩ rfl rfl ?_
  rintro i ⟨hi0,hby⟩;dsimp only at hi0 hby⊢;repeat'(first|refine gU ?_|apply gE<;>intro h)<;>conv=>whnf
  ·have hi':i<bys.length:=by omega
   obtain⟨lc,hlc⟩:∃lc,bys[i]?=some lc:=⟨_,List.getElem?_eq_getElem hi'⟩;obtain⟨w,hw,hl,hrc⟩:=hR hlc;rw[drop_at hlc,j7s] at hby;obtain⟨k3,n3,l3,b3,z3,x3,rfl,rfl,hz3,hxs3,hlen3,hbd3⟩:=hl.open;repeat'(first|refine gU ?_|apply gM<;>intro h|refine VIdx.mk _ hw ?_|refine gZ hbz ?_|refine gX hrc ?_)<;>conv=>whnf
   ·rw[(by assumption:j0x (.mk k3 n3 l3) 4=true),Bool.true_and] at hby
    exact VAgain.mk _ rfl _ (j0a rfl rfl rfl) ⟨i+1,⟨hi',hby⟩,by omega,rfl⟩
   ·rw[(by assumption:j0x (.mk k3 n3 l3) 4=false),Bool.false_and] at hby
    rw[←hby,if_neg (by simp)] at eI
    rw[eI];rfl
  ·rw[List.drop_of_length_le (by omega),j7s] at hby
   repeat'(first|refine gU ?_|apply gE<;>intro h|refine gX hg ?_|refine gX hi ?_)<;>conv=>whnf
   ·rw[←hby,if_pos rfl,if_neg (by omega)] at eI
    rw[eI];rfl
   ·rw[←hby,if_pos rfl,if_pos (by omega)] at eI
    rw[eI];simp only[putL,he];rfl
 ·rw[if_neg c1] at eI;rw[Bool.not_eq_true] at c1;rw[c1] at hr;rw[eI];obtain⟨k1,n1,l1,b1,z1,x1,rfl,rfl,hz1,hxs1,hlen1,hbd1⟩:=h.open;refine j00 Tryz.func359 rfl rfl rfl ?_;repeat'(first|refine gU ?_|refine gX hr ?_)<;>conv=>whnf
  all_goals rfl
open Go Go.Am Go.Gw
def RT(f:FuncId)(args:List PV)(t:Tm):Prop:=∃w,TmP t w∧Pf C1 f args [w]
theorem joP{f a:Tm}{w:PV}(h:TmP f v)(h':TmP a w)(b:Bool):TmP (.mk k 0 [] [] [f,a]) (.ag [iv k,iv 0,sv [],.sl true 0 [],.sl b 5 [v,w]]):=
 ⟨true,0,[],b,5,[v,w],rfl,.inr rfl,rfl,by simp,.inl rfl,⟨v,[w],rfl,h,w,[],rfl,h',rfl⟩,by simp,by simp,by unfold i64;omega⟩
def appV:PV→List Tm→PV
 |w,[]=>w
 |w,a::r=>appV (.ag [iv 4,iv 0,sv [],.sl true 0 [],.sl true 5 [w,encT a]]) r
theorem j7Q:∀(ts:List Tm) (k n:Int) (s:List UInt8) (b:Bool) (z:Nat) (xs:List PV) (c:Bool) (y:Nat) (ys:List PV),∃k' n' s' b' z' xs' c' y' ys',appV (.ag [iv k,iv n,sv s,.sl b z xs,.sl c y ys]) ts=.ag [iv k',iv n',sv s',.sl b' z' xs',.sl c' y' ys']
 |[],_,_,_,_,_,_,_,_,_=>⟨_,_,_,_,_,_,_,_,_,rfl⟩
 |a::r,k,n,s,b,z,xs,c,y,ys=>by rw[appV];exact j7Q r _ _ _ _ _ _ _ _ _
theorem jfw:∀(ts:List Tm) (w:PV) (a:Tm),appV w (ts++[a])=.ag [iv 4,iv 0,sv [],.sl true 0 [],.sl true 5 [appV w ts,encT a]]
 |[],w,a=>rfl
 |b::r,w,a=>by rw[List.cons_append,appV,jfw r,appV]
theorem jhg:∀{ts:List Tm}{t:Tm}{w:PV},TmP t w→(∀a∈ts,TmW a)→TmP (appF t ts) (appV w ts)
 |[],t,w,h,_=>h
 |a::r,t,w,h,hw=>by
  rw[appF,appV];exact jhg (joP h (hw a (by simp)) true) fun x hx=>hw x (by simp[hx])
theorem j7P(t:Tm)(v:PV)(h:TmP t v)(ts:List Tm)(b:Bool)(z:Nat)(xs:List PV)(hz:z=5∨xs=[])(hxs:TmsP ts xs)(hbd:ts.length≤1000000):Pf C1 70 [v,.sl b z xs] [appV (encT t) ts]:=by
 have hf:=j3g t v h;have hlen:=hxs.len;obtain⟨k2,n2,s2,b2,z2,x2,c2,y2,ys2,he⟩:=j07 t;rw[he] at hf⊢;obtain⟨k0,n0,s0,ls0,ts0,b0,z0,xs0,c0,y0,ys0,rfl,rfl,-⟩:=h.open;refine j00 Tryz.func70 rfl rfl rfl ?_;repeat'(first|refine gU ?_|refine gX hf ?_)<;>conv=>whnf
 refine j03 (G:=Nat) (fun i=>[(12,iv i)]) (fun i=>[_,_,.box 25 (appV (.ag [iv k2,iv n2,sv s2,.sl b2 z2 x2,.sl c2 y2 ys2]) (ts.take i)).cells]) (fun i=>i≤ts.length) (fun i=>ts.length-i) 0 (by omega) rfl rfl ?_
 intro i hi;obtain⟨k3,n3,s3,b3,z3,x3,c3,y3,ys3,he3⟩:=j7Q (ts.take i) k2 n2 s2 b2 z2 x2 c2 y2 ys2;rw[he3];simp only[PV.cells];repeat'(first|refine gU ?_|apply gE<;>intro h)<;>conv=>whnf
 ·have hi':i<ts.length:=by omega
  obtain⟨tc,htc⟩:∃tc,ts[i]?=some tc:=⟨_,List.getElem?_eq_getElem hi'⟩;obtain⟨v,hv,hl⟩:=hxs.at htc;have hfc:=j3g tc v hl;have e:=jfw (ts.take i) (.ag [iv k2,iv n2,sv s2,.sl b2 z2 x2,.sl c2 y2 ys2]) tc;rw[←take_snoc' htc,he3] at e;obtain⟨k4,n4,s4,b4,z4,x4,c4,y4,ys4,he4⟩:=j07 tc;rw[he4] at hfc e;obtain⟨k1,n1,s1,l1,t1,b1,z1,x1,c1,y1,ys1,rfl,rfl,-⟩:=hl.open;repeat'(first|refine gU ?_|refine VIdx.mk _ hv ?_|refine gZ hz ?_|refine j01 hfc fun _=>?_|apply gK)<;>conv=>whnf
  exact VAgain.mk _ rfl _ (j0a rfl rfl rfl) ⟨i+1,hi',by omega,congrArg (fun t=>(⟨_,[_,_,.box _ t]⟩:AS)) (congrArg PV.cells e).symm⟩
 ·rw[List.take_of_length_le (by omega)] at he3
  rw[he3];rfl
def jeW(l:Lv):Tm:=.mk 2 0 [] [l] []
def jlK(l:Lv):PV:=.ag [iv 2,iv 0,sv [],.sl true 3 [encL l],.sl true 0 []]
theorem jeX(h:LvP l v):TmP (jeW l) (jlK l):=
 ⟨true,3,[encL l],true,0,[],rfl,.inl rfl,⟨encL l,[],rfl,je2 l v h,rfl⟩,by simp,.inr rfl,rfl,by simp,by simp,by unfold i64;omega⟩
theorem jdD(l:Lv)(v:PV)(h:LvP l v):Pf C1 151 [v] [jlK l]:=by
 have hx:=j8q l v h true 3 rfl;unfold jlK;obtain⟨k2,n2,b2,z2,x2,he2⟩:=j0A l;rw[he2] at hx⊢;obtain⟨k1,n1,l1,b1,z1,x1,rfl,rfl,hz1,hxs1,hlen1,hbd1⟩:=h.open;refine j00 Tryz.func151 rfl rfl rfl ?_;repeat'(first|refine gU ?_|refine gX hx ?_)<;>conv=>whnf
 all_goals rfl
def j1C:List Lv→List Lv→Option (List Lv)
 |[],_=>some []
 |l::r,bys=>match Go.Gw.InstF l bys with
  |none=>none
  |some x=>(j1C r bys).map (x :: ·)
mutual
def lvT:Tm→List Lv→Option Tm
 | .mk k n s ls ts,bys=>match j1C ls bys with
  |none=>none
  |some ls'=>(lvTs ts bys).map fun ts'=>.mk k n s ls' ts'
def lvTs:List Tm→List Lv→Option (List Tm)
 |[],_=>some []
 |t::r,bys=>match lvT t bys with
  |none=>none
  |some x=>(lvTs r bys).map (x :: ·)
end
theorem jcZ(h:ls[i]?=some l):j1C (ls.drop i) bys=match Go.Gw.InstF l bys with
  |none=>none
  |some x=>(j1C (ls.drop (i+1)) bys).map (x :: ·):=by rw[drop_at h,j1C]
theorem jjr{t:Tm}(h:ts[i]?=some t):lvTs (ts.drop i) bys=match lvT t bys with
  |none=>none
  |some x=>(lvTs (ts.drop (i+1)) bys).map (x :: ·):=by rw[drop_at h,lvTs]
theorem jl4(bys:List Lv)(bb:Bool)(bz:Nat)(bxs:List PV)(hbz:bz=3∨bxs=[])(hbxs:LvsP bys bxs)(hbb:bys.length≤1000000)(t:Tm):∀v,TmP t v→∀p kk:Int,allT t p kk=true→Pf C1 329 [v,.sl bb bz bxs] (putV (lvT t bys)):=by
 induction t using Tm.ind with
 |_ k nn s ls ts ih=>
 intro v h p kk hall;obtain⟨hk17,hlenk,hnode,hrl,hats⟩:=j0r hall;obtain⟨ha1,ha2⟩:=j5c hall;obtain⟨_,_,_,_,_,b,z,xs,c,y,ys,⟨rfl,rfl,rfl,rfl,rfl⟩,rfl,hz,hxs,hlen,hbd,hy,hys,hlen2,hbd2,hsl⟩:=h.open;have hI:=jm6 bys bb bz bxs hbz hbxs hbb
 by_cases h4:4≤k
 ·obtain⟨rfl,rfl,rfl⟩:=j4O hnode h4;have hxs0:xs=[]:=List.eq_nil_of_length_eq_zero (by simpa using hlen)
  subst hxs0;have e:lvT (.mk k 0 [] [] ts) bys=(lvTs ts bys).map fun ts'=>.mk k 0 [] [] ts':=by rw[lvT,j1C]
  rw[e];refine j00 Tryz.func329 rfl rfl rfl ?_;repeat'(refine gU ?_)<;>conv=>whnf
  refine j03 (G:=Unit) (fun _=>[]) (fun _=>_) (fun _=>True) (fun _=>0) () trivial rfl rfl ?_
  rintro _ _;repeat'(refine gU ?_)<;>conv=>whnf
  refine j03 (G:=List Tm) (fun g=>[(48,iv g.length)]) (fun g=>match g with
    |[]=>[.box 25 [iv k,iv 0,sv [],.sl b z [],.sl c y ys],.box 25 zTm,.box 25 [iv k,iv 0,sv [],.sl true 0 [],.sl true 0 []]]
    |d::r=>[.box 25 [iv k,iv 0,sv [],.sl b z [],.sl c y ys],.box 25 zTm,.box 25 [iv k,iv 0,sv [],.sl true 0 [],.ms 5 (r.length+1)],.dead,.dead,.row false 25 5 ((d::r).map encT)]) (fun g=>g.length≤ts.length∧(lvTs (ts.drop g.length) bys).map (g ++ ·)=lvTs ts bys) (fun g=>ts.length-g.length) [] ⟨by simp,by simp⟩ rfl rfl ?_
  rintro don ⟨hi,hinv⟩;have hround:∀(hi':don.length<ts.length),∃tc,ts[don.length]?=some tc∧∃v,ys[don.length]?=some v∧TmP tc v∧Pf C1 329 [v,.sl bb bz bxs] (putV (lvT tc bys)):=fun hi'=>by
   obtain⟨tc,htc⟩:∃tc,ts[don.length]?=some tc:=⟨_,List.getElem?_eq_getElem hi'⟩;obtain⟨v,hv,hl⟩:=hys.at htc;exact⟨tc,htc,v,hv,hl,ih _ (List.mem_of_getElem? htc) _ hl _ _ (j2t hats htc)⟩
  have hfin:¬don.length<ts.length→lvTs ts bys=some don:=fun hn=>by
   rw[List.drop_of_length_le (by omega),lvTs] at hinv
   simpa using hinv.symm
  have hno:∀{tc},ts[don.length]?=some tc→lvT tc bys=none→lvTs ts bys=none:=fun htc h0=>by
   rw[jjr htc,h0] at hinv;simpa using hinv.symm
  have hyes:∀{tc x},ts[don.length]?=some tc→lvT tc bys=some x→(lvTs (ts.drop (don++[x]).length) bys).map ((don++[x]) ++ ·)=lvTs ts bys:=fun htc h0=>by
   rw[jjr htc,h0] at hinv;rw[←hinv];simp[Function.comp_def]
  cases don with
  |nil=>
   repeat'(first|refine gU ?_|apply gE<;>intro h)<;>conv=>whnf
   ·obtain⟨tc,htc,v,hv,hl,hr⟩:=hround (by simp only[List.length_nil] at *;omega)
    obtain⟨k1,n1,s1,l1,t1,b1,z1,x1,c1,y1,ys1,rfl,rfl,-⟩:=hl.open;cases h0:lvT (.mk k1 n1 s1 l1 t1) bys with
    |none=>
     rw[h0] at hr;repeat'(first|refine gU ?_|refine VIdx.mk _ hv ?_|refine gZ hy ?_|refine gX hr ?_)<;>conv=>whnf
     rw[hno htc h0];rfl
    |some x=>
     rw[h0] at hr;have hy1:=hyes htc h0;have e:[x].map encT=[encT x]:=rfl;obtain⟨k2,n2,s2,b2,z2,x2,c2,y2,ys2,he⟩:=j07 x;simp only[putV] at hr;rw[he] at hr e;repeat'(first|refine gU ?_|refine VIdx.mk _ hv ?_|refine gZ hy ?_|refine gX hr ?_)<;>conv=>whnf
     exact VAgain.mk _ rfl _ (j0L (.cons (j02 rfl rfl) (.cons (j02 rfl rfl) (.cons (j02 rfl rfl) (.cons (j02 rfl rfl) (.cons (j02 rfl rfl) (.cons (j08 rfl) .nil)))))) (.cons (j02 rfl rfl) (.cons (j02 rfl rfl) (.cons (j02 rfl rfl) (.cons j0i (.cons j0i (.cons (j08 rfl) .nil)))))) rfl rfl rfl rfl rfl) ⟨[x],⟨by simp only[List.length_cons,List.length_nil] at *;omega,hy1⟩,by simp only[List.length_cons,List.length_nil] at *;omega,congrArg (fun t=>(⟨_,[.box _ [iv k,iv 0,sv [],.sl b z [],.sl c y ys],.box _ zTm,.box _ [iv k,iv 0,sv [],.sl true 0 [],.ms 5 1],.dead,.dead,.row false _ 5 t]⟩:AS)) e.symm⟩
   ·rw[hfin (by simp only[List.length_nil] at *;omega)]
    rfl
  |cons d r=>
   have hln:((d::r).map encT).length=r.length+1:=by simp
   have hsh:j1f k≤3:=by unfold j1f;(repeat' split)<;>omega
   have hbl:r.length+1≤3:=by simp only[List.length_cons] at hi;omega
   repeat'(first|refine gU ?_|apply gE<;>intro h)<;>conv=>whnf
   ·obtain⟨tc,htc,v,hv,hl,hr⟩:=hround (by simp only[List.length_cons] at *;omega)
    obtain⟨k1,n1,s1,l1,t1,b1,z1,x1,c1,y1,ys1,rfl,rfl,-⟩:=hl.open;cases h0:lvT (.mk k1 n1 s1 l1 t1) bys with
    |none=>
     rw[h0] at hr;repeat'(first|refine gU ?_|refine VIdx.mk _ hv ?_|refine gZ hy ?_|refine gX hr ?_)<;>conv=>whnf
     rw[hno htc h0];rfl
    |some x=>
     rw[h0] at hr;have hy1:=hyes htc h0;have e:(d::(r++[x])).map encT=(d::r).map encT++[encT x]:=by simp
     have hp8:((d::r).map encT++[encT x]).all (pur 8)=true:=e▸j0Q _ 6;obtain⟨k2,n2,s2,b2,z2,x2,c2,y2,ys2,he⟩:=j07 x;simp only[putV] at hr;rw[he] at hr e hp8;repeat'(first|refine gU ?_|refine VIdx.mk _ hv ?_|refine gZ hy ?_|refine gX hr ?_|refine VOk.mk (j1h (w:=80) (r:=140737488355328) hln rfl rfl rfl rfl (by simp only[List.length_cons,List.length_nil];omega) (by simp only[List.length_cons,List.length_nil];omega)) ?_)<;>conv=>whnf
     have el:(((d::(r++[x])).length:Nat):Int)=((d::r).length:Nat)+1:=by simp
     have el2:(r++[x]).length+1=r.length+1+1:=by simp
     refine VAgain.mk _ rfl _ (j0L (.cons (j02 rfl rfl) (.cons (j02 rfl rfl) (.cons (j02 rfl rfl) (.cons j0i (.cons j0i (.cons (j08 hp8) (.cons (j02 rfl rfl) (.cons (j02 rfl rfl) .nil)))))))) (.cons (j02 rfl rfl) (.cons (j02 rfl rfl) (.cons (j02 rfl rfl) (.cons j0i (.cons j0i (.cons (j08 hp8) .nil)))))) rfl rfl rfl rfl rfl) ⟨d::(r++[x]),⟨by simp only[List.length_cons,List.length_append,List.length_nil] at *;omega,hy1⟩,by simp only[List.length_cons,List.length_append,List.length_nil] at *;omega,?_⟩
     dsimp only;rw[e,el,el2];rfl
   ·rw[hfin (by simp only[List.length_cons] at *;omega)]
    have hpu:((d::r).map encT).all (pur 6)=true:=j0Q _ 4;refine j0n rfl (j04 (j5z (j04 rfl (j04 rfl (j04 rfl (j04 rfl (j04 (j0D rfl hln.symm hpu) j0m)))))) (j04 rfl j0m)) rfl ?_;simp only[Option.map_some,putV];rw[j2N,j2y (by simp)]
    rfl
 ·obtain rfl:=ha1 (by omega)
  have hys0:ys=[]:=List.eq_nil_of_length_eq_zero (by simpa using hlen2)
  subst hys0;have e:lvT (.mk k nn s ls []) bys=(j1C ls bys).map fun ls'=>.mk k nn s ls' []:=by
   rw[lvT];cases j1C ls bys<;>simp[lvTs]
  rw[e];have hll:ls.length≤4:=by
   have h3:j0O k≤1:=by unfold j0O;split<;>omega
   simp only[j3W] at hnode;split at hnode
   ·simp at hnode;simp[hnode.2.2.2]
   ·split at hnode
    ·simp at hnode;omega
    ·simp only[Bool.and_eq_true,decide_eq_true_eq] at hnode;omega
  refine j00 Tryz.func329 rfl rfl rfl ?_;repeat'(refine gU ?_)<;>conv=>whnf
  refine j03 (G:=List Lv) (fun g=>[(25,iv g.length)]) (fun g=>match g with
    |[]=>[.box 25 [iv k,iv nn,sv s,.sl b z xs,.sl c y []],.box 25 zTm,.box 25 [iv k,iv nn,sv s,.sl true 0 [],.sl true 0 []]]
    |d::r=>[.box 25 [iv k,iv nn,sv s,.sl b z xs,.sl c y []],.box 25 zTm,.box 25 [iv k,iv nn,sv s,.ms 5 (r.length+1),.sl true 0 []],.dead,.dead,.row false 86 3 ((d::r).map encL)]) (fun g=>g.length≤ls.length∧(j1C (ls.drop g.length) bys).map (g ++ ·)=j1C ls bys) (fun g=>ls.length-g.length) [] ⟨by simp,by simp⟩ rfl rfl ?_
  rintro don ⟨hi,hinv⟩;have hround:∀(hi':don.length<ls.length),∃lc,ls[don.length]?=some lc∧∃v,xs[don.length]?=some v∧LvP lc v∧Pf C1 359 [v,.sl bb bz bxs] (putL (Go.Gw.InstF lc bys)):=fun hi'=>by
   obtain⟨lc,hlc⟩:∃lc,ls[don.length]?=some lc:=⟨_,List.getElem?_eq_getElem hi'⟩;obtain⟨v,hv,hl⟩:=hxs.at hlc;exact⟨lc,hlc,v,hv,hl,hI _ _ hl⟩
  have hfin:¬don.length<ls.length→j1C ls bys=some don:=fun hn=>by
   rw[List.drop_of_length_le (by omega),j1C] at hinv
   simpa using hinv.symm
  have hno:∀{lc},ls[don.length]?=some lc→Go.Gw.InstF lc bys=none→j1C ls bys=none:=fun hlc h0=>by
   rw[jcZ hlc,h0] at hinv;simpa using hinv.symm
  have hyes:∀{lc x},ls[don.length]?=some lc→Go.Gw.InstF lc bys=some x→(j1C (ls.drop (don++[x]).length) bys).map ((don++[x]) ++ ·)=j1C ls bys:=fun hlc h0=>by
   rw[jcZ hlc,h0] at hinv;rw[←hinv];simp[Function.comp_def]
  cases don with
  |nil=>
   repeat'(first|refine gU ?_|apply gE<;>intro h)<;>conv=>whnf
   ·obtain⟨lc,hlc,v,hv,hl,hr⟩:=hround (by simp only[List.length_nil] at *;omega)
    obtain⟨k1,n1,l1,b1,z1,x1,rfl,rfl,hz1,hxs1,hlen1,hbd1⟩:=hl.open;cases h0:Go.Gw.InstF (.mk k1 n1 l1) bys with
    |none=>
     rw[h0] at hr;repeat'(first|refine gU ?_|refine VIdx.mk _ hv ?_|refine gZ hz ?_|refine gX hr ?_)<;>conv=>whnf
     rw[hno hlc h0];rfl
    |some x=>
     rw[h0] at hr;have hy1:=hyes hlc h0;have e:[x].map encL=[encL x]:=rfl;obtain⟨k2,n2,b2,z2,x2,he⟩:=j0A x;simp only[putL] at hr;rw[he] at hr e;repeat'(first|refine gU ?_|refine VIdx.mk _ hv ?_|refine gZ hz ?_|refine gX hr ?_)<;>conv=>whnf
     exact VAgain.mk _ rfl _ (j0L (.cons (j02 rfl rfl) (.cons (j02 rfl rfl) (.cons (j02 rfl rfl) (.cons (j02 rfl rfl) (.cons (j02 rfl rfl) (.cons (j08 rfl) .nil)))))) (.cons (j02 rfl rfl) (.cons (j02 rfl rfl) (.cons (j02 rfl rfl) (.cons j0i (.cons j0i (.cons (j08 rfl) .nil)))))) rfl rfl rfl rfl rfl) ⟨[x],⟨by simp only[List.length_cons,List.length_nil] at *;omega,hy1⟩,by simp only[List.length_cons,List.length_nil] at *;omega,congrArg (fun t=>(⟨_,[.box _ [iv k,iv nn,sv s,.sl b z xs,.sl c y []],.box _ zTm,.box _ [iv k,iv nn,sv s,.ms 5 1,.sl true 0 []],.dead,.dead,.row false _ 3 t]⟩:AS)) e.symm⟩
   ·rw[hfin (by simp only[List.length_nil] at *;omega)]
    refine j03 (G:=Unit) (fun _=>[]) (fun _=>_) (fun _=>True) (fun _=>0) () trivial rfl rfl ?_
    rintro _ _;repeat'(refine gU ?_)<;>conv=>whnf
    rfl
  |cons d r=>
   have hln:((d::r).map encL).length=r.length+1:=by simp
   have hbl:r.length+1≤4:=by simp only[List.length_cons] at hi;omega
   repeat'(first|refine gU ?_|apply gE<;>intro h)<;>conv=>whnf
   ·obtain⟨lc,hlc,v,hv,hl,hr⟩:=hround (by simp only[List.length_cons] at *;omega)
    obtain⟨k1,n1,l1,b1,z1,x1,rfl,rfl,hz1,hxs1,hlen1,hbd1⟩:=hl.open;cases h0:Go.Gw.InstF (.mk k1 n1 l1) bys with
    |none=>
     rw[h0] at hr;repeat'(first|refine gU ?_|refine VIdx.mk _ hv ?_|refine gZ hz ?_|refine gX hr ?_)<;>conv=>whnf
     rw[hno hlc h0];rfl
    |some x=>
     rw[h0] at hr;have hy1:=hyes hlc h0;have e:(d::(r++[x])).map encL=(d::r).map encL++[encL x]:=by simp
     have hp8:((d::r).map encL++[encL x]).all (pur 8)=true:=e▸j2M _ 6;obtain⟨k2,n2,b2,z2,x2,he⟩:=j0A x;simp only[putL] at hr;rw[he] at hr e hp8;repeat'(first|refine gU ?_|refine VIdx.mk _ hv ?_|refine gZ hz ?_|refine gX hr ?_|refine VOk.mk (j1h (w:=40) (r:=140737488355328) hln rfl rfl rfl rfl (by simp only[List.length_cons,List.length_nil];omega) (by simp only[List.length_cons,List.length_nil];omega)) ?_)<;>conv=>whnf
     have el:(((d::(r++[x])).length:Nat):Int)=((d::r).length:Nat)+1:=by simp
     have el2:(r++[x]).length+1=r.length+1+1:=by simp
     refine VAgain.mk _ rfl _ (j0L (.cons (j02 rfl rfl) (.cons (j02 rfl rfl) (.cons (j02 rfl rfl) (.cons j0i (.cons j0i (.cons (j08 hp8) (.cons (j02 rfl rfl) (.cons (j02 rfl rfl) .nil)))))))) (.cons (j02 rfl rfl) (.cons (j02 rfl rfl) (.cons (j02 rfl rfl) (.cons j0i (.cons j0i (.cons (j08 hp8) .nil)))))) rfl rfl rfl rfl rfl) ⟨d::(r++[x]),⟨by simp only[List.length_cons,List.length_append,List.length_nil] at *;omega,hy1⟩,by simp only[List.length_cons,List.length_append,List.length_nil] at *;omega,?_⟩
     dsimp only;rw[e,el,el2];rfl
   ·rw[hfin (by simp only[List.length_cons] at *;omega)]
    have hpu:((d::r).map encL).all (pur 6)=true:=j2M _ 4;refine j03 (G:=Unit) (fun _=>[]) (fun _=>_) (fun _=>True) (fun _=>0) () trivial rfl rfl ?_
    rintro _ _;repeat'(refine gU ?_)<;>conv=>whnf
    refine j0n rfl (j04 (j5z (j04 rfl (j04 rfl (j04 rfl (j04 (j0D rfl hln.symm hpu) (j04 rfl j0m)))))) (j04 rfl j0m)) rfl ?_;simp only[Option.map_some,putV];rw[j2N,j7Y (by simp)]
    rfl
open Go Go.Am Go.Gw
def LvW(l:Lv):Prop:=LvP l (encL l)
theorem LvP.w(h:LvP l v):LvW l:=je2 _ _ h
theorem LvsP.ws:∀{ls:List Lv}{xs:List PV},LvsP ls xs→∀l∈ls,LvW l
 |[],_,_,l,hl=>by cases hl
 |a::r,xs,h,l,hl=>by
  simp only[LvsP] at h;obtain⟨v,xs',rfl,h1,h2⟩:=h;rcases List.mem_cons.1 hl with rfl|hl
  ·exact h1.w
  ·exact LvsP.ws h2 l hl
theorem jjs:∀{ls:List Lv},(∀l∈ls,LvW l)→LvsP ls (ls.map encL)
 |[],_=>by simp only[List.map_nil,LvsP]
 |l::r,h=>by
  simp only[List.map_cons,LvsP];exact⟨_,_,rfl,h l (by simp),jjs fun x hx=>h x (by simp[hx])⟩
theorem jd7(h:∀l∈ls,LvW l):∃b z xs,j7X ls=.sl b z xs∧(z=3∨xs=[])∧LvsP ls xs:=jiY (jjs h)
theorem jbj(hl:ls.length≤3518437208780)(h:∀l∈ls,LvW l):LvW (.mk k n ls):=by
 obtain⟨b,z,xs,e,hz,hx⟩:=jd7 h;unfold LvW;rw[jaT,e];exact⟨b,z,xs,rfl,hz,hx,hl⟩
theorem LvW.args(h:LvW (.mk k n ls)):(∀l∈ls,LvW l)∧ls.length≤3518437208780:=by
 unfold LvW at h;simp only[LvP] at h;obtain⟨b,z,xs,_,hz,hx,hb⟩:=h;exact⟨hx.ws,hb⟩
theorem j9B(h:∀t∈ts,TmW t):∃b z xs,j7Z ts=.sl b z xs∧(z=5∨xs=[])∧TmsP ts xs:=by
 cases ts with
 |nil=>exact⟨_,_,_,rfl,.inr rfl,by simp only[TmsP]⟩
 |cons a r=>exact⟨_,_,_,j2y (by simp),.inl rfl,jas h⟩
theorem jtP(hn:i64 n)(hs:s.length≤140737488355328)(hl:ls.length≤3518437208780)(h:∀l∈ls,LvW l)(ht:ts.length≤1759218604441)(h':∀t∈ts,TmW t):TmW (.mk k n s ls ts):=by
 obtain⟨b,z,xs,e,hz,hx⟩:=jd7 h;obtain⟨c,y,ys,e',hy,hys⟩:=j9B h';unfold TmW;rw[j2N,e,e'];exact⟨b,z,xs,c,y,ys,rfl,hz,hx,hl,hy,hys,ht,hs,hn⟩
theorem TmW.parts(h:TmW (.mk k n s ls ts)):i64 n∧s.length≤140737488355328∧ls.length≤3518437208780∧(∀l∈ls,LvW l)∧ts.length≤1759218604441∧∀t∈ts,TmW t:=by
 unfold TmW at h;simp only[TmP] at h;obtain⟨b,z,xs,c,y,ys,_,hz,hxs,hb,hy,hys,hc,hs,hn⟩:=h;exact⟨hn,hs,hb,hxs.ws,hc,hys.ws⟩
mutual
theorem jnz{bys:List Lv}(hb:∀l∈bys,LvW l):∀(l:Lv),LvW l→LvW (j2F l bys)
 | .mk k n ls,h=>by
  by_cases hk:k=2
  ·subst hk;rw[jgg,List.getD_eq_getElem?_getD];cases e:bys[n.toNat]? with
   |none=>exact jbj (by simp) (by simp)
   |some x=>exact hb x (List.mem_of_getElem? e)
  ·rw[jjg hk,←j6R];obtain⟨h1,h2⟩:=h.args;have:=jjh hb ls h1;exact jbj (by rw[j6R,List.length_map];exact h2) this
theorem jjh{bys:List Lv}(hb:∀l∈bys,LvW l):∀(ls:List Lv),(∀l∈ls,LvW l)→∀x∈jcX ls bys,LvW x
 |[],_,x,hx=>by cases hx
 |l::r,h,x,hx=>by
  rw[jcX] at hx;rcases List.mem_cons.1 hx with rfl|hx
  ·exact jnz hb l (h l (by simp))
  ·exact jjh hb r (fun l hl=>h l (by simp[hl])) x hx
end
theorem jrK{x:Lv}(hb:∀l∈bys,LvW l)(hl:LvW l)(h:Go.Gw.InstF l bys=some x):LvW x:=by
 unfold Go.Gw.InstF at h;(repeat' split at h)<;>simp at h
 subst h;exact jnz hb l hl
theorem jji{bys:List Lv}(hb:∀l∈bys,LvW l):∀{ls xs:List Lv},(∀l∈ls,LvW l)→j1C ls bys=some xs→(∀l∈xs,LvW l)∧xs.length=ls.length
 |[],xs,_,h=>by simp[j1C] at h;subst h;simp
 |l::r,xs,hl,h=>by
  rw[j1C] at h;cases h0:Go.Gw.InstF l bys with
  |none=>rw[h0] at h;simp at h
  |some x=>
   rw[h0] at h;cases h1:j1C r bys with
   |none=>rw[h1] at h;simp at h
   |some ys=>
    rw[h1] at h;simp at h;subst h;obtain⟨a,b⟩:=jji hb (fun l hl'=>hl l (by simp[hl'])) h1
    refine⟨?_,by simp[b]⟩
    intro y hy;rcases List.mem_cons.1 hy with rfl|hy
    ·exact jrK hb (hl l (by simp)) h0
    ·exact a y hy
mutual
theorem jsw{bys:List Lv}(hb:∀l∈bys,LvW l):∀{t x:Tm},TmW t→lvT t bys=some x→TmW x
 | .mk k n s ls ts,x,hw,h=>by
  obtain⟨hn,hs,hll,hl,htl,ht⟩:=hw.parts;rw[lvT] at h;cases h0:j1C ls bys with
  |none=>rw[h0] at h;simp at h
  |some ls'=>
   rw[h0] at h;cases h1:lvTs ts bys with
   |none=>rw[h1] at h;simp at h
   |some ts'=>
    rw[h1] at h;simp at h;subst h;obtain⟨a,b⟩:=jji hb hl h0;obtain⟨c,d⟩:=jrp hb ht h1;exact jtP hn hs (by omega) a (by omega) c
theorem jrp{bys:List Lv}(hb:∀l∈bys,LvW l):∀{ts xs:List Tm},(∀t∈ts,TmW t)→lvTs ts bys=some xs→(∀t∈xs,TmW t)∧xs.length=ts.length
 |[],xs,_,h=>by simp[lvTs] at h;subst h;simp
 |t::r,xs,hl,h=>by
  rw[lvTs] at h;cases h0:lvT t bys with
  |none=>rw[h0] at h;simp at h
  |some x=>
   rw[h0] at h;cases h1:lvTs r bys with
   |none=>rw[h1] at h;simp at h
   |some ys=>
    rw[h1] at h;simp at h;subst h;obtain⟨a,b⟩:=jrp hb (fun l hl'=>hl l (by simp[hl'])) h1
    refine⟨?_,by simp[b]⟩
    intro y hy;rcases List.mem_cons.1 hy with rfl|hy
    ·exact jsw hb (hl t (by simp)) h0
    ·exact a y hy
end
def j1L(t:Tm)(bys:List Lv):Option Tm:=if j0w t bys.length 1125899906842624=true then match lvT t bys with
  |none=>none
  |some x=>if j0v x≤2000 then some x else none
 else none
theorem jcu(bys:List Lv)(bb:Bool)(bz:Nat)(bxs:List PV)(hbz:bz=3∨bxs=[])(hbxs:LvsP bys bxs)(hbb:bys.length≤1000000)(t:Tm)(v:PV)(h:TmP t v):Pf C1 297 [v,.sl bb bz bxs] (putV (j1L t bys)):=by
 have hlenb:=hbxs.len;have hr:=j0I t v h bys.length 1125899906842624;rw[←hlenb] at hr;have eI:j1L t bys=if j0w t bys.length 1125899906842624=true then match lvT t bys with
  |none=>none
  |some x=>if j0v x≤2000 then some x else none
 else none:=rfl
 rw[←hlenb] at eI
 by_cases c1:j0w t bxs.length 1125899906842624=true
 ·rw[if_pos c1] at eI;rw[c1] at hr;have hl:=jl4 bys bb bz bxs hbz hbxs hbb t v h bxs.length _ (j3k c1).2.2.2;have hw:=fun x=>jsw (x:=x) hbxs.ws h.w
  obtain⟨k1,n1,s1,l1,t1,b1,z1,x1,c1,y1,ys1,rfl,rfl,-⟩:=h.open;cases h0:lvT (.mk k1 n1 s1 l1 t1) bys with
  |none=>
   rw[h0] at hl eI;dsimp only at eI;rw[eI];simp only[putV] at hl;refine j00 Tryz.func297 rfl rfl rfl ?_;repeat'(first|refine gU ?_|refine gX hr ?_|refine gX hl ?_)<;>conv=>whnf
   all_goals rfl
  |some x=>
   have hx:=hw x h0;have hn:=j1X x _ hx;rw[h0] at hl eI;dsimp only at eI;rw[eI];simp only[putV] at hl;obtain⟨k2,n2,s2,b2,z2,x2,c2,y2,ys2,he⟩:=j07 x;rw[he] at hl hn
   by_cases c2:j0v x≤2000
   ·rw[if_pos c2];simp only[putV];rw[he];refine j00 Tryz.func297 rfl rfl rfl ?_;repeat'(first|refine gU ?_|apply gE<;>intro h|refine gX hr ?_|refine gX hl ?_|refine gX hn ?_)<;>conv=>whnf
    all_goals first|rfl|(exfalso;omega)
   ·rw[if_neg c2];refine j00 Tryz.func297 rfl rfl rfl ?_;repeat'(first|refine gU ?_|apply gE<;>intro h|refine gX hr ?_|refine gX hl ?_|refine gX hn ?_)<;>conv=>whnf
    all_goals first|rfl|(exfalso;omega)
 ·rw[if_neg c1] at eI;rw[Bool.not_eq_true] at c1;rw[c1] at hr;rw[eI];obtain⟨k1,n1,s1,l1,t1,b1,z1,x1,c1,y1,ys1,rfl,rfl,-⟩:=h.open;refine j00 Tryz.func297 rfl rfl rfl ?_;repeat'(first|refine gU ?_|refine gX hr ?_)<;>conv=>whnf
  all_goals rfl
end Go.Proofs.YtbnodhcijeaceaaGreatDoor

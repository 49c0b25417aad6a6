/- The iterator of strings.SplitSeq in the plain machine, its store written out. -/
import Derived.Test.YtbnodhcijeaceaaGreatDoorXPs
set_option linter.all false
set_option maxHeartbeats 2000000
set_option maxRecDepth 100000
namespace Go.Proofs.YtbnodhcijeaceaaGreatDoor
open Go Go.Am Go.Gw
theorem jeT:∀(g acc:List UInt8),(Lib.indexByte g 46 = -1∧j2Z acc g=[acc.reverse++g])∨(∃i:Nat,Lib.indexByte g 46=i∧i<g.length∧j2Z acc g=(acc.reverse++g.take i)::j2Z [] (g.drop (i+1)))
 |[],acc=>.inl ⟨rfl,by simp[j2Z]⟩
 |c::r,acc=>by
  by_cases hc:(c == 46)=true
  ·refine .inr ⟨0,?_,by simp,?_⟩
   ·rw[Lib.indexByte,if_pos hc];try rfl
   ·rw[j2Z,if_pos hc];simp
  ·rcases jeT r (c::acc) with⟨h1,h2⟩|⟨i,h1,h2,h3⟩
   ·refine .inl ⟨?_,?_⟩
    ·rw[Lib.indexByte,if_neg hc,h1];try rfl
    ·rw[j2Z,if_neg hc,h2];simp
   ·refine .inr ⟨i+1,?_,by simp;omega,?_⟩
    ·rw[Lib.indexByte,if_neg hc,h1,if_neg (by first|omega|simp)];try rfl
    ·rw[j2Z,if_neg hc,h3];simp
theorem jjv(g:List UInt8):(Lib.indexByte g 46 = -1∧j4R g=[g])∨(∃i:Nat,Lib.indexByte g 46=i∧i<g.length∧j4R g=g.take i::j4R (g.drop (i+1))):=by
 simpa[j4R] using jeT g []
def lpS(s:List UInt8)(v5 v6:Value)(a b:Code)(x:LpS):SO:=.lp [(8,.fn 281 [] [.bp 1 0,.bp 2 0,.bp 3 0]),(7,sv s),(6,.sc v6),(5,.sc v5),(4,sv s),(2,.bp 4 0),(0,sv s)] [9] a b x
def jqS(s:List UInt8)(v5 v6:Value)(a b:Code):Prop:=∀(g p:List UInt8),FindsY C1 [.yl 0,sv p] [lpS s v5 v6 a b .ready,.box 9 [sv [46]],.box 9 [sv g],.box 3 [iv 0],.box 4 [bv false]] fun r st=>
 r=.ret [bv (j7f p)]∧st=[lpS s v5 v6 a b (if j7f p=true then .ready else .done none),.box 9 [sv [46]],.box 9 [sv g],.box 3 [iv 0],.box 4 [bv false]]
variable{s:List UInt8}{t:Tm}
theorem jdk{v5 v6:Value}{a b:Code}(hY:jqS s v5 v6 a b)(g p:List UInt8){K:AR→Prop}
  (k:K (.val (bv (j7f p)) [lpS s v5 v6 a b (if j7f p=true then .ready else .done none),.box 9 [sv [46]],.box 9 [sv g],.box 3 [iv 0],.box 4 [bv false]])) :
  VYield C1 0 [sv p] [lpS s v5 v6 a b .ready,.box 9 [sv [46]],.box 9 [sv g],.box 3 [iv 0],.box 4 [bv false]] K:=by
 refine jrs rfl rfl rfl rfl rfl (j1O (hY g p) ?_);rintro _ _ ⟨rfl,rfl⟩;exact j1X rfl k
theorem jpG(s:List UInt8)(hs:s.length≤140737488355328)(v5 v6:Value)(a b:Code)(hY:jqS s v5 v6 a b):Finds C1 281 [.yl 0,.bp 1 0,.bp 2 0,.bp 3 0] [lpS s v5 v6 a b .ready,.box 9 [sv [46]],.box 9 [sv s],.box 3 [iv 0],.box 4 [bv false]] fun r st=>
  r=.ret []∧∃g,st=[lpS s v5 v6 a b (if(j4R s).all j7f=true then .ready else .done none),.box 9 [sv [46]],.box 9 [sv g],.box 3 [iv 0],.box 4 [bv false]]:=by
 refine j00 Tryz.func281 rfl rfl rfl ?_;repeat'(refine gU ?_)<;>conv=>whnf
 refine j03 (G:=List UInt8) (fun _=>[]) (fun g=>[_,.box 9 [sv [46]],.box 9 [sv g],.box 3 [iv 0],.box 4 [bv false]]) (fun g=>g.length≤s.length∧(j4R g).all j7f=(j4R s).all j7f) (fun g=>g.length) s ⟨by omega,rfl⟩ rfl rfl ?_
 rintro g ⟨hg,hall⟩;have hix:=jng g;repeat'(first|apply gE<;>intro h|refine gX hix ?_)<;>conv=>whnf
 ·refine jdk hY g g ?_;repeat'(refine gU ?_)<;>conv=>whnf
  have e:j7f g=(j4R s).all j7f:=by
   rcases jjv g with⟨h1,h2⟩|⟨i,h1,_⟩
   ·rw[←hall,h2];simp
   ·omega
  refine⟨rfl,g,?_⟩;rw[←e];rfl
 ·obtain⟨i,h1,h2,h3⟩:∃i:Nat,Lib.indexByte g 46=i∧i<g.length∧j4R g=g.take i::j4R (g.drop (i+1)):=(jjv g).resolve_left (fun e=>by omega)
  rw[h1] at hix;rw[h1];have hs1:=jqt g i (by omega)
  have hs2:=jqu g (i+1) (by omega)
  refine VArith.fits (by unfold i64;omega) ?_
  rw[Int.add_zero];repeat'(first|refine VRes.mk _ hs1 ?_)<;>conv=>whnf
  refine jdk hY g (g.take i) ?_;repeat'(first|refine gU ?_|apply gM<;>intro h)<;>conv=>whnf
  ·refine VArith.fits (by
    show i64 ((i:Int)+((1:Nat):Int))
    unfold i64;omega) ?_
   repeat'(first|refine gU ?_|refine VRes.mk _ hs2 ?_)<;>conv=>whnf
   refine VAgain.mk _ rfl _ (j0X rfl) ⟨g.drop (i+1),⟨by simp;omega,?_⟩,by simp;omega,by rw[if_pos h];rfl⟩
   rw[←hall,h3,List.all_cons,h];rfl
  ·have e:(j4R s).all j7f=false:=by
    rw[←hall,h3,List.all_cons,h];rfl
   refine⟨rfl,g,?_⟩;rw[e,if_neg (by rw[h];exact Bool.false_ne_true)]
   rfl
open Go Go.Am Go.Gw
theorem j1V(s:List UInt8)(hs:s.length≤140737488355328):Pf C1 121 [sv s] [bv (j2H s)]:=by
 refine j00 Tryz.func121 rfl rfl rfl ?_;repeat'(first|refine gU ?_|apply gE<;>intro h)<;>conv=>whnf
 ·have:¬s.length≤40:=by simp[j2K] at *;omega
  rw[j2H,decide_eq_false this];rfl
 ·have h40:s.length≤40:=by simp[j2K] at *;omega
  refine j1b rfl (Finds.mono (jf5 s) ?_);rintro _ _ ⟨rfl,rfl⟩;refine⟨rfl,j1X rfl ?_⟩;all_goals try conv=>whnf
  refine j0F rfl rfl rfl rfl rfl rfl (Finds.mono (jpG s hs _ _ _ _ ?_) ?_)
  ·intro g p;have hpt:=jq8 p;refine j1T rfl rfl ?_;repeat'(first|refine gU ?_|apply gM<;>intro h|refine gX hpt ?_)<;>conv=>whnf
   ·exact⟨by rw[h],by rw[if_pos h];rfl⟩
   ·exact⟨by rw[h],by rw[if_neg (by rw[h];exact Bool.false_ne_true)];rfl⟩
  ·rintro _ _ ⟨rfl,g,rfl⟩;refine j1X rfl ?_
   by_cases hpp:(j4R s).all j7f=true
   ·have hnm:j2H s=true:=by rw[j2H,decide_eq_true h40,hpp];rfl
    rw[if_pos hpp];repeat'(refine gU ?_)<;>conv=>whnf
    rw[hnm]
   ·have hnm:j2H s=false:=by rw[j2H,Bool.eq_false_iff.2 hpp,Bool.and_false]
    rw[if_neg hpp];repeat'(refine gU ?_)<;>conv=>whnf
    rw[hnm];rfl
def jgV(s:List UInt8):Prop:=s.length≤140737488355328
theorem jpV:NmOk jgV:=fun s hs=>j1V s hs
open Go Go.Am Go.Gw
theorem jh0(n:Int):Pf C1 190 [iv n] [encT (.mk 1 n [] [] [])]:=by
 refine j00 Tryz.func190 rfl rfl rfl ?_;repeat'(first|refine gU ?_|apply gE<;>intro h|apply gM<;>intro h|apply gK)<;>conv=>whnf
 rfl
theorem j5R(t:Tm)(v:PV)(h:TmP t v)(b:Bool)(z:Nat):Pf C1 70 [v,.sl b z []] [encT t]:=by
 have hf:=j3h t v h;obtain⟨k2,n2,s2,b2,z2,x2,c2,y2,ys2,he⟩:=j07 t;obtain⟨k0,n0,s0,ls0,ts0,b0,z0,xs,c,y,ys,rfl,rfl,hz,hxs,hlen,hbd,hy,hys,hlen2,hbd2,hsl⟩:=h.open;rw[he] at hf⊢;refine j00 Tryz.func70 rfl rfl rfl ?_;repeat'(first|refine gU ?_|apply gE<;>intro h|apply gM<;>intro h|refine gX hf ?_|apply gK)<;>conv=>whnf
 refine j03 (G:=Unit) (fun _=>[]) (fun _=>_) (fun _=>True) (fun _=>0) () trivial rfl rfl ?_
 rintro _ _;repeat'(first|refine gU ?_|apply gE<;>intro h|apply gM<;>intro h|apply gK)<;>conv=>whnf
 rfl
theorem j7R(k i d:Int)(hd:d≤4611686018427387904)(hd0:0≤d)(hk:1≤k)(hi:0≤i):Pf C1 294 [iv k,iv i,iv d] [iv (j0k (j0g k) i d)]:=by
 refine j00 Tryz.func294 rfl rfl rfl ?_;repeat'(first|refine gU ?_|apply gE<;>intro h|apply gM<;>intro h|apply gK)<;>conv=>whnf
 all_goals simp_all[j0k,j0g]
 all_goals omega
theorem jjN{P:Program}{T:TypeId}{x y:Operand}{a:Nat}(h:a≤140737488355328):j0j P .quo T x y (iv a) (iv 16)=some (iv (a/16:Nat)):=by
 have e:((a:Int).tdiv 16)=(a/16:Nat):=by rw[Int.tdiv_eq_ediv_of_nonneg (by omega)];rfl
 have hw:IntKind.i64.wrap ((a/16:Nat):Int)=(a/16:Nat):=by
  have h1:a/16≤a:=Nat.div_le_self a 16;apply wrap_i64;unfold i64;omega
 have hz:¬((16:Int)=0):=by omega
 simp only[j0j,j6H,eqGuard,binOp,Op.intDiv,e,hw,if_neg hz];rfl
theorem jte(l:Lv)(q:Int)(h:0≤q):1≤lnF l q∧lnF l q≤q+1:=by
 have:=jg8 l q h;have:=j5z l;omega
theorem jb6(q:Int)(h:0≤q):∀(ls:List Lv) (acc:Int),acc≤lnFs ls acc q
 |[],acc=>by simp[lnFs]
 |l::r,acc=>by
  rw[lnFs];split
  ·have:=jb6 q h r (acc+lnF l q);have:=jte l q h;omega
  ·omega
mutual
theorem jbK:∀(t:Tm) (q:Int),0≤q→1≤useN t q∧useN t q≤q+1
 | .mk _ _ s ls ts,q,h=>by
  rw[useN];have:=jjW ts (lnFs ls (1+((s.length/16:Nat):Int)) q) q h;have:=jb6 q h ls (1+((s.length/16:Nat):Int));omega
theorem jjW:∀(ts:List Tm) (acc q:Int),0≤q→acc≤jbL ts acc q
 |[],acc,q,h=>by simp[jbL]
 |t::r,acc,q,h=>by
  rw[jbL];split
  ·have:=jjW r (acc+useN t q) q h;have:=jbK t q h;omega
  ·omega
end
mutual
theorem joi:∀(t:Tm) (q:Int),0≤q→1≤refN t q∧refN t q≤q+1
 | .mk _ _ s ls ts,q,h=>by
  rw[refN];have:=jaj ts (lnFs ls 1 q) q h;have:=jb6 q h ls 1;omega
theorem jaj:∀(ts:List Tm) (acc q:Int),0≤q→acc≤jeE ts acc q
 |[],acc,q,h=>by simp[jeE]
 |t::r,acc,q,h=>by
  rw[jeE];split
  ·have:=jaj r (acc+refN t q) q h;have:=joi t q h;omega
  ·omega
end
theorem j3r(t:Tm):∀v,TmP t v→∀(q:Int),0≤q→q≤1000000→Pf C1 54 [v,iv q] [iv (useN t q)]:=by
 induction t using Tm.ind with
 |_ k nn s ls ts ih=>
 intro v h q h0 h1;obtain⟨_,_,_,_,_,b,z,xs,c,y,ys,⟨rfl,rfl,rfl,rfl,rfl⟩,rfl,hz,hxs,hlen,hbd,hy,hys,hlen2,hbd2,hsl⟩:=h.open;have hsz:ByteArray.size ⟨s.toArray⟩=s.length:=by simp[j2K]
 have hdv:s.length/16≤s.length:=Nat.div_le_self _ _;refine j00 Tryz.func54 rfl rfl rfl ?_;repeat'(first|refine gU ?_|apply gE<;>intro h|apply gM<;>intro h|apply gK)<;>conv=>whnf
 refine VRes.mk _ (jjN (by rw[hsz];omega)) ?_
 rw[hsz];repeat'(first|refine gU ?_|apply gE<;>intro h|apply gM<;>intro h|apply gK)<;>conv=>whnf
 refine j03 (G:=Nat×Int) (fun g=>[(6,iv g.1),(5,iv g.2)]) (fun g=>_) (fun g=>g.1≤ls.length∧1≤g.2∧g.2≤8796093022210+2*q∧lnFs (ls.drop g.1) g.2 q=lnFs ls (1+((s.length/16:Nat):Int)) q) (fun g=>ls.length-g.1) (0,1+((s.length/16:Nat):Int)) ⟨by omega,by dsimp only;omega,by dsimp only;omega,rfl⟩ rfl rfl ?_
 rintro⟨i,acc⟩ ⟨hi,ha1,ha2,hacc⟩;dsimp only at hi ha1 ha2 hacc⊢;repeat'(first|refine gU ?_|apply gE<;>intro h|apply gM<;>intro h|apply gK)<;>conv=>whnf
 ·have hi':i<ls.length:=by omega
  obtain⟨lc,hlc⟩:∃lc,ls[i]?=some lc:=⟨_,List.getElem?_eq_getElem hi'⟩;obtain⟨v,hv,hl⟩:=hxs.at hlc;have hrec:=jcd lc _ hl q h0 h1;have hx:=jg8 lc q h0;have hxp:=j5z lc;obtain⟨k1,n1,l1,b1,z1,x1,rfl,rfl,hz1,hxs1,hlen1,hbd1⟩:=hl.open;refine VIdx.mk _ hv (VOk.mk (j0D rfl hz) ?_);repeat'(first|refine gU ?_|apply gE<;>intro h|apply gM<;>intro h|refine gX hrec ?_|apply gK)<;>conv=>whnf
  refine VAgain.mk _ rfl _ (j0c rfl rfl rfl) ⟨(i+1,acc+lnF (.mk k1 n1 l1) q),⟨hi',by dsimp only;omega,by dsimp only;omega,?_⟩,by dsimp only;omega,rfl⟩
  rw[←hacc,drop_at hlc,lnFs,if_pos (by omega)]
 all_goals
  have e:lnFs ls (1+((s.length/16:Nat):Int)) q=acc:=by
   rw[←hacc]
   by_cases hil:i<ls.length
   ·obtain⟨lc,hlc⟩:∃lc,ls[i]?=some lc:=⟨_,List.getElem?_eq_getElem hil⟩;rw[drop_at hlc,lnFs,if_neg (by omega)]
   ·rw[List.drop_of_length_le (by omega),lnFs]
  clear hacc;refine j03 (G:=Nat×Int) (fun g=>[(7,iv g.1),(5,iv g.2)]) (fun g=>_) (fun g=>g.1≤ts.length∧1≤g.2∧g.2≤8796093022210+2*q∧jbL (ts.drop g.1) g.2 q=jbL ts acc q) (fun g=>ts.length-g.1) (0,acc) ⟨by omega,by dsimp only;omega,by dsimp only;omega,rfl⟩ rfl rfl ?_
  rintro⟨j,ac2⟩ ⟨hj,hb1,hb2,hacc2⟩;dsimp only at hj hb1 hb2 hacc2⊢;repeat'(first|refine gU ?_|apply gE<;>intro h|apply gM<;>intro h|apply gK)<;>conv=>whnf
  ·have hj':j<ts.length:=by omega
   obtain⟨tc,htc⟩:∃tc,ts[j]?=some tc:=⟨_,List.getElem?_eq_getElem hj'⟩;obtain⟨v,hv,hl⟩:=hys.at htc;have hrec:=ih _ (List.mem_of_getElem? htc) _ hl q h0 h1;have hx:=jbK tc q h0;obtain⟨k1,n1,s1,l1,t1,b1,z1,x1,c1,y1,ys1,rfl,rfl,hz1,hxs1,hlen1,hbd1,hy1,hys1,hlen21,hbd21,hsl1⟩:=hl.open;refine VIdx.mk _ hv (VOk.mk (j0D rfl hy) ?_);repeat'(first|refine gU ?_|apply gE<;>intro h|apply gM<;>intro h|refine gX hrec ?_|apply gK)<;>conv=>whnf
   refine VAgain.mk _ rfl _ (j0c rfl rfl rfl) ⟨(j+1,ac2+useN (.mk k1 n1 s1 l1 t1) q),⟨hj',by dsimp only;omega,by dsimp only;omega,?_⟩,by dsimp only;omega,rfl⟩
   rw[←hacc2,drop_at htc,jbL,if_pos (by omega)]
  all_goals
   have e2:jbL ts acc q=ac2:=by
    rw[←hacc2]
    by_cases hjl:j<ts.length
    ·obtain⟨tc,htc⟩:∃tc,ts[j]?=some tc:=⟨_,List.getElem?_eq_getElem hjl⟩;rw[drop_at htc,jbL,if_neg (by omega)]
    ·rw[List.drop_of_length_le (by omega),jbL]
   rw[useN,e,e2,←j8o]
open Go Go.Am Go.Gw
def jur(op:BinOp)(a b:Int)(K:PV→Prop):Prop:=match op with
 | .lss=>K (bv (decide (a<b)))
 | .gtr=>K (bv (decide (b<a)))
 | .leq=>K (bv (decide (a≤b)))
 | .geq=>K (bv (decide (b≤a)))
 | .eql=>K (bv (a == b))
 |_=>False
theorem j2D{a b:Bool}(h:a=b):AEnd.ret [bv a]=AEnd.ret [bv b]:=by rw[h]
def letC(c:UInt8):Bool:=decide (97≤c.toNat∧c.toNat≤122∨c.toNat=95)
def digC(c:UInt8):Bool:=decide (48≤c.toNat∧c.toNat≤57)
def rnF:List UInt8→Bool→Bool
 |[],first=>!first
 |c::r,first=>if c.toNat=46 then(if first then false else rnF r true) else if(letC c||(digC c && !first))=true then rnF r false else false
mutual
def sizT:Tm→Nat
 | .mk _ _ _ ls ts=>1+j09 ls+j0t ts
def j0t:List Tm→Nat
 |[]=>0
 |t::r=>sizT t+j0t r
end
theorem jb7(q:Int)(h:0≤q):∀(ls:List Lv) (acc:Int),0≤acc→(acc+j09 ls≤q→lnFs ls acc q=acc+j09 ls)∧(q<acc+j09 ls→q<lnFs ls acc q)
 |[],acc,h0=>by simp[lnFs,j09]
 |l::r,acc,h0=>by
  have h1:=jg8 l q h;have h2:=j5z l;rw[lnFs,j09]
  by_cases hq:acc≤q
  ·rw[if_pos hq];have ih:=jb7 q h r (acc+lnF l q) (by omega)
   constructor
   ·intro h3;rw[ih.1 (by omega)]
    omega
   ·intro h3
    by_cases h4:(j0G l:Int)≤q+1
    ·exact ih.2 (by omega)
    ·have:=jb6 q h r (acc+lnF l q);omega
  ·rw[if_neg hq];omega
mutual
theorem jsv:∀(t:Tm) (q:Int),0≤q→refN t q=min (sizT t:Int) (q+1)
 | .mk _ _ s ls ts,q,h=>by
  rw[refN,sizT];have h1:=jb7 q h ls 1 (by omega)
  have h2:=jb6 q h ls 1
  by_cases h3:1+(j09 ls:Int)≤q
  ·have h4:=jjB ts (lnFs ls 1 q) q h (by omega)
   rw[h1.1 h3] at h4 ⊢
   by_cases h5:1+(j09 ls:Int)+j0t ts≤q
   ·rw[h4.1 h5];omega
   ·have:=h4.2 (by omega);omega
  ·have h4:=h1.2 (by omega)
   have:=jaj ts (lnFs ls 1 q) q h;omega
theorem jjB:∀(ts:List Tm) (acc q:Int),0≤q→0≤acc→(acc+j0t ts≤q→jeE ts acc q=acc+j0t ts)∧(q<acc+j0t ts→q<jeE ts acc q)
 |[],acc,q,h,h0=>by simp[jeE,j0t]
 |t::r,acc,q,h,h0=>by
  have h1:=jsv t q h;have h2:1≤refN t q:=(joi t q h).1;rw[jeE,j0t]
  by_cases hq:acc≤q
  ·rw[if_pos hq];have ih:=jjB r (acc+refN t q) q h (by omega)
   constructor
   ·intro h3;rw[ih.1 (by omega)]
    omega
   ·intro h3
    by_cases h4:(sizT t:Int)≤q+1
    ·exact ih.2 (by omega)
    ·have:=jaj r (acc+refN t q) q h;omega
  ·rw[if_neg hq];omega
end
mutual
theorem jmw:∀(t:Tm) (left:Int),0≤left→((sizT t:Int)≤left→cntT t left=left-sizT t)∧(left<(sizT t:Int)→cntT t left = -1)
 | .mk _ _ s ls ts,left,h=>by
  rw[cntT,sizT];have h1:=j8V ls (left-1) (by omega)
  have hg:=j4z ls (left-1) (by omega)
  by_cases h3:(j09 ls:Int)≤left-1
  ·rw[h1.1 h3];have h4:=jiM ts (left-1-j09 ls) (by omega)
   constructor
   ·intro h5;rw[h4.1 (by omega)]
    omega
   ·intro h5
    by_cases hts:ts=[]
    ·subst hts;simp only[j0t] at h5;omega
    ·exact h4.2 (by omega) hts
  ·by_cases h6:left=0
   ·subst h6;rw[j3P _ _ (by omega),j4y _ _ (by omega)]
    constructor
    ·intro;omega
    ·intro;rfl
   ·have h2:ls≠[]:=by
     rintro rfl;simp only[j09] at h3;omega
    rw[h1.2 (by omega) h2,j4y _ _ (by omega)]
    constructor
    ·intro;omega
    ·intro;rfl
theorem jiM:∀(ts:List Tm) (left:Int),-1≤left→((j0t ts:Int)≤left→j5h ts left=left-j0t ts)∧(left<(j0t ts:Int)→ts≠[]→j5h ts left = -1)
 |[],left,h=>by simp[j5h,j0t]
 |t::r,left,h=>by
  rw[j5h,j0t]
  by_cases h0:left<0
  ·rw[if_pos h0];have:1≤sizT t:=by cases t;simp[sizT];omega
   constructor
   ·intro;omega
   ·intro;omega
  ·rw[if_neg h0];have h1:=jmw t left (by omega)
   by_cases h2:(sizT t:Int)≤left
   ·rw[h1.1 h2];have ih:=jiM r (left-sizT t) (by omega)
    constructor
    ·intro h3;rw[ih.1 (by omega)]
     omega
    ·intro h3 _
     by_cases hr:r=[]
     ·subst hr;simp only[j0t] at h3;omega
     ·exact ih.2 (by omega) hr
   ·rw[h1.2 (by omega),j4y _ _ (by omega)]
    constructor
    ·intro;omega
    ·intro;simp
end
theorem j2A(t:Tm):j0v t=min (sizT t:Int) 2001:=by
 have:=jmw t 2000 (by omega)
 unfold j0v
 by_cases h:(sizT t:Int)≤2000
 ·rw[this.1 h];omega
 ·rw[this.2 (by omega)];omega
def anyT(t:Tm):Bool:=j0w t 4 1125899906842624
open Go Go.Am Go.Gw
mutual
theorem TmP.names:∀{t:Tm}{v:PV},TmP t v→NmT jgV t
 | .mk k n s ls ts,v,h=>by
  simp only[TmP] at h;obtain⟨b,z,xs,c,y,ys,rfl,hz,hxs,hbd,hy,hys,hbd2,hsl,hi⟩:=h;simp only[NmT];exact⟨hsl,TmsP.names hys⟩
theorem TmsP.names:∀{ts:List Tm}{xs:List PV},TmsP ts xs→NmTs jgV ts
 |[],xs,h=>by simp only[NmTs]
 |t::r,xs,h=>by
  simp only[TmsP] at h;obtain⟨v,xs',rfl,h1,h2⟩:=h;simp only[NmTs];exact⟨TmP.names h1,TmsP.names h2⟩
end
theorem j0K(t:Tm)(v:PV)(h:TmP t v)(n kk:Int):Pf C1 99 [v,iv n,iv kk] [bv (j0w t n kk)]:=jlt jpV t v h h.names n kk
theorem j5d(t:Tm)(v:PV)(h:TmP t v):Pf C1 206 [v] [bv (anyT t)]:=by
 have hr:=j0K t v h 4 1125899906842624;obtain⟨k,nn,s,ls,ts,b,z,xs,c,y,ys,rfl,rfl,hz,hxs,hlen,hbd,hy,hys,hlen2,hbd2,hsl⟩:=h.open;refine j00 Tryz.func206 rfl rfl rfl ?_;repeat'(first|refine gU ?_|refine gX hr ?_)<;>conv=>whnf
 all_goals rfl
theorem jdI(t:Tm)(v:PV)(h:TmP t v):Pf C1 212 [v] [bv (!anyT t)]:=by
 have hr:=j5d t v h;obtain⟨k,nn,s,ls,ts,b,z,xs,c,y,ys,rfl,rfl,hz,hxs,hlen,hbd,hy,hys,hlen2,hbd2,hsl⟩:=h.open;refine j00 Tryz.func212 rfl rfl rfl ?_;repeat'(first|refine gU ?_|refine gX hr ?_)<;>conv=>whnf
 all_goals rfl
def jmf(k:Int):Bool:=decide (k=6∨k=5)
mutual
def j7o:Tm→Int→Int
 | .mk k n _ _ ts,d=>if k=1 then max (n-d+1) 0 else j4t ts k 0 d 0
def j4t:List Tm→Int→Int→Int→Int→Int
 |[],_,_,_,acc=>acc
 |t::r,k,i,d,acc=>j4t r k (i+1) d (max acc (j7o t (j0k (j0g k) i d)))
end
theorem j2s:∀{ts:List Tm}{k p kk:Int}{i:Int}{j:Nat}{tc:Tm},j0T ts k i p kk=true→ts[j]?=some tc→allT tc p (j0k (j0g k) (i+j) kk)=true
 |[],k,p,kk,i,j,tc,h,hj=>by simp at hj
 |t::r,k,p,kk,i,j,tc,h,hj=>by
  simp only[j0T,Bool.and_eq_true] at h;cases j with
  |zero=>
   simp at hj;subst hj;simpa using h.1
  |succ j=>
   have:=j2s h.2 (by simpa using hj:r[j]?=some tc)
   rwa [show i+1+(j:Int)=i+((j+1:Nat):Int) by omega] at this
theorem j0r{k n:Int}{ls:List Lv}{ts:List Tm}{p kk:Int}(h:allT (.mk k n s ls ts) p kk=true):(1≤k∧k≤7)∧(ts.length:Int)=j1f k∧j3Z (.mk k n s ls ts) kk=true∧j1E ls p=true∧j0T ts k 0 p kk=true:=by
 simpa[allT,and_assoc] using h
theorem j2d(b i d:Int):d≤j0k b i d∧j0k b i d≤d+1:=by
 unfold j0k;split<;>omega
def jub(t:Tm):Int:=if anyT t=true then j7o t 0 else 0
theorem j2t(h:anyT t=true):j0v t≤2000∧allT t 4 1125899906842624=true:=by
 simpa[anyT,j0w] using h
theorem j5b(h:anyT t=true):depT t≤2000:=jgh (j2t h).1
def jt1(kind:Int):Tm→Nat
 | .mk k n s ls ts=>match ts with
  |[a,b]=>if(jmf kind&&(anyT (.mk k n s ls [a,b])&&decide (k=kind)))=true then jt1 kind b+1 else 0
  |_=>0
open Go Go.Am Go.Gw
def jro(kind:Int):Nat→Tm→Option (List Tm×Tm)
 |0,t=>some ([],t)
 |n+1,.mk k _ _ _ ts=>match ts with
  |[a,b]=>if k=kind then(jro kind n b).map fun r=>(a::r.1,r.2) else none
  |_=>none
def juc(t:Tm)(kind n:Int):Option (List Tm×Tm):=if(anyT t&&(jmf kind&&decide (0≤n)))=true then jro kind n.toNat t else none
def tz:Tm:=.mk 0 0 [] [] []
def splitV(o:Option (List Tm×Tm)):List PV:=match o with
 |some (l,b)=>[j7Y l,encT b,bv true]
 |none=>[.sl true 0 [],encT tz,bv false]
open Go Go.Am Go.Gw
def j9O(by_ from_:Int):PV:=.fn 257 [] [.cp [iv from_],.cp [iv by_]]
theorem jgd(by_ from_:Int):Pf C1 209 [iv by_,iv from_] [j9O by_ from_]:=by
 refine j00 Tryz.func209 rfl rfl rfl ?_;all_goals try conv=>whnf
 refine j0p rfl rfl rfl ?_;rfl
def movF(by_ from_:Int)(t:Tm)(d:Int):Option Tm:=if t.kind=1∧¬t.num<from_+d then some (.mk 1 (t.num+by_) [] [] []) else none
def putV(o:Option Tm):List PV:=match o with
 |some x=>[encT x,bv true]
 |none=>[encT tz,bv false]
theorem jl5(by_ from_:Int)(t:Tm)(v:PV)(h:TmP t v)(d:Int)(h1:i64 (from_+d))(h2:t.kind=1→i64 (t.num+by_)):Pf C1 257 [v,iv d,.cp [iv from_],.cp [iv by_]] (putV (movF by_ from_ t d)):=by
 obtain⟨k,n,s,ls,ts,b,z,xs,c,y,ys,rfl,rfl,-⟩:=h.open;simp only[Tm.kind,Tm.num] at h2;have hv:=jh0 (n+by_);refine j00 Tryz.func257 rfl rfl rfl ?_;repeat'(first|refine gU ?_|apply gE<;>intro h|refine VArith.fits h1 ?_|refine VArith.fits (h2 (by omega)) ?_|refine gX hv ?_)<;>conv=>whnf
 ·have e:movF by_ from_ (.mk k n s ls ts) d=none:=by
   simp only[movF,Tm.kind,Tm.num];exact if_neg (by omega)
  rw[e];rfl
 ·have e:movF by_ from_ (.mk k n s ls ts) d=some (.mk 1 (n+by_) [] [] []):=by
   simp only[movF,Tm.kind,Tm.num];exact if_pos (by omega)
  rw[e];rfl
 ·have e:movF by_ from_ (.mk k n s ls ts) d=none:=by
   simp only[movF,Tm.kind,Tm.num];exact if_neg (by omega)
  rw[e];rfl
theorem ja9(f:FuncId)(caps:List PV)(hp:caps.all (pur 7)=true)(left:Int)(h0 : -100000≤left)(h1:left≤100000)(t:Tm)(v:PV)(h:TmP t v):Finds C1 293 [.bp 0 0,v] [.box 254 [.fn f [] caps,iv left]] fun r st=>r=.ret [v]∧st=[.box 254 [.fn f [] caps,iv (left-j0v t)]]:=by
 have hn:=j1W t v h;have hnb:0≤j0v t∧j0v t≤2001:=by rw[j2A];omega
 obtain⟨k,n,s,ls,ts,b,z,xs,c,y,ys,rfl,rfl,-⟩:=h.open;refine j00 Tryz.func293 rfl rfl rfl ?_;repeat'(first|refine gU ?_|refine j01 hn fun _=>?_|apply gK)<;>conv=>whnf
 have hpl:∀x:Int,jew (.box 254 [.fn f [] caps,iv x]):=fun x=>jo6 (by
  show((true&&caps.all (pur 7))&&(true&&true))=true
  rw[hp];rfl)
 refine vret_take rfl ?_ ⟨rfl,rfl⟩;show(soIn _ (SO.box 254 [.fn f [] caps,iv _])&&true)=true
 rw[(hpl _).2];rfl
end Go.Proofs.YtbnodhcijeaceaaGreatDoor

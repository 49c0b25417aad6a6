/- The plain machine: slices of strings. Plain lemmas, no statement of the seat. -/
import Derived.Test.YtbnodhcijeaceaaGreatDoorZPo
set_option linter.all false
set_option maxHeartbeats 2000000
set_option maxRecDepth 100000
namespace Go.Proofs.YtbnodhcijeaceaaGreatDoor
open Go Go.Am Go.Gw
variable{s:List UInt8}{P:Program}{t:Tm}{T:TypeId}
theorem j4a{α β:Type}{f:α→Sem β}:∀{s:Sem α}{a:α},qrun P s=some a→qrun P (s.bind f)=qrun P (f a):=by
 intro s
 induction s with
 |pure x=>intro a h;simp only[qrun,Option.some.injEq] at h;subst h;rfl
 |program k ih=>intro a h;exact ih P h
 |mark m k ih=>intro a h;exact ih h
 |_=>intro a h;simp[qrun] at h
theorem j1t{d:TypeDesc}(h:P.underlying T=some d):qrun P (underlying T)=some d:=by
 unfold underlying;simp[bind,Sem.bind,qrun,program,h];rfl
theorem jqH(g:List UInt8)(i:Nat)(h:i≤g.length):j8A C1.P 9 (str g) none (some (iv i)) none=some (sv (g.take i)):=by
 have h0:(0:Int)≤(i:Int)∧(i:Int)≤(g.length:Int):=by omega
 have hT:C1.P.underlying 9=some .string:=by kernel_rfl
 have e:qrun C1.P (Instr.sliceAt 9 (str g) none (some (.int .i64 i)) none)=some (str (g.take i)):=by
  unfold Instr.sliceAt;simp only[bind];rw[j4a (j1t hT)];simp[Instr.slice,Instr.sliceBounds,Instr.sliceBound,asIntOf,j2K,h0,j6M,qrun,bind,Sem.bind];rw[j4a (j1t hT)];simp[pure,Sem.bind,j2K,h0,j6M,qrun,h]
 show(qrun C1.P (Instr.sliceAt 9 (str g) none (some (.int .i64 i)) none)).bind j6s=_
 rw[e];rfl
theorem jqI(g:List UInt8)(i:Nat)(h:i≤g.length):j8A C1.P 9 (str g) (some (iv i)) none none=some (sv (g.drop i)):=by
 have h0:(0:Int)≤(i:Int)∧(i:Int)≤(g.length:Int):=by omega
 have hT:C1.P.underlying 9=some .string:=by kernel_rfl
 have e:qrun C1.P (Instr.sliceAt 9 (str g) (some (.int .i64 i)) none none)=some (str (g.drop i)):=by
  unfold Instr.sliceAt;simp only[bind];rw[j4a (j1t hT)];simp[Instr.slice,Instr.sliceBounds,Instr.sliceBound,asIntOf,j2K,h0,j6M,qrun,bind,Sem.bind];rw[j4a (j1t hT)];simp[pure,Sem.bind,j2K,h0,j6M,qrun,h];try exact List.take_of_length_le (by simp)
 show(qrun C1.P (Instr.sliceAt 9 (str g) (some (.int .i64 i)) none none)).bind j6s=_
 rw[e];rfl
open Go Go.Am Go.Gw
theorem jf2:∀(g acc:List UInt8),(Lib.indexByte g 46 = -1∧j2Z acc g=[acc.reverse++g])∨(∃i:Nat,Lib.indexByte g 46=i∧i<g.length∧j2Z acc g=(acc.reverse++g.take i)::j2Z [] (g.drop (i+1)))
 |[],acc=>.inl ⟨rfl,by simp[j2Z]⟩
 |c::r,acc=>by
  by_cases hc:(c == 46)=true
  ·refine .inr ⟨0,?_,by simp,?_⟩
   ·rw[Lib.indexByte,if_pos hc];try rfl
   ·rw[j2Z,if_pos hc];simp
  ·rcases jf2 r (c::acc) with⟨h1,h2⟩|⟨i,h1,h2,h3⟩
   ·refine .inl ⟨?_,?_⟩
    ·rw[Lib.indexByte,if_neg hc,h1];try rfl
    ·rw[j2Z,if_neg hc,h2];simp
   ·refine .inr ⟨i+1,?_,by simp;omega,?_⟩
    ·rw[Lib.indexByte,if_neg hc,h1,if_neg (by first|omega|simp)];try rfl
    ·rw[j2Z,if_neg hc,h3];simp
theorem jjB(g:List UInt8):(Lib.indexByte g 46 = -1∧j4R g=[g])∨(∃i:Nat,Lib.indexByte g 46=i∧i<g.length∧j4R g=g.take i::j4R (g.drop (i+1))):=by
 simpa[j4R] using jf2 g []
def lpS(s:List UInt8)(v5 v6:Value)(a b:Code)(x:LpS):SO:=.lp [(8,.fn 281 [] [.bp 1 0,.bp 2 0,.bp 3 0]),(7,sv s),(6,.sc v6),(5,.sc v5),(4,sv s),(2,.bp 4 0),(0,sv s)] [9] a b x
def jr6(s:List UInt8)(v5 v6:Value)(a b:Code):Prop:=∀(g p:List UInt8),FindsY C1 [.yl 0,sv p] [lpS s v5 v6 a b .ready,.box 9 [sv [46]],.box 9 [sv g],.box 3 [iv 0],.box 4 [bv false]] fun r st=>
 r=.ret [bv (j7e p)]∧st=[lpS s v5 v6 a b (if j7e p=true then .ready else .done none),.box 9 [sv [46]],.box 9 [sv g],.box 3 [iv 0],.box 4 [bv false]]
theorem jdx{v5 v6:Value}{a b:Code}(hY:jr6 s v5 v6 a b)(g p:List UInt8){K:AR→Prop}
  (k:K (.val (bv (j7e p)) [lpS s v5 v6 a b (if j7e p=true then .ready else .done none),.box 9 [sv [46]],.box 9 [sv g],.box 3 [iv 0],.box 4 [bv false]])) :
  VYield C1 0 [sv p] [lpS s v5 v6 a b .ready,.box 9 [sv [46]],.box 9 [sv g],.box 3 [iv 0],.box 4 [bv false]] K:=by
 refine jrH rfl rfl rfl rfl rfl (j1O (hY g p) ?_);rintro _ _ ⟨rfl,rfl⟩;exact j1Y rfl k
theorem jpS(s:List UInt8)(hs:s.length≤140737488355328)(v5 v6:Value)(a b:Code)(hY:jr6 s v5 v6 a b):Finds C1 281 [.yl 0,.bp 1 0,.bp 2 0,.bp 3 0] [lpS s v5 v6 a b .ready,.box 9 [sv [46]],.box 9 [sv s],.box 3 [iv 0],.box 4 [bv false]] fun r st=>
  r=.ret []∧∃g,st=[lpS s v5 v6 a b (if(j4R s).all j7e=true then .ready else .done none),.box 9 [sv [46]],.box 9 [sv g],.box 3 [iv 0],.box 4 [bv false]]:=by
 refine j00 Tryz.func281 rfl rfl rfl ?_;repeat'(refine gU ?_)<;>conv=>whnf
 refine j03 (G:=List UInt8) (fun _=>[]) (fun g=>[_,.box 9 [sv [46]],.box 9 [sv g],.box 3 [iv 0],.box 4 [bv false]]) (fun g=>g.length≤s.length∧(j4R g).all j7e=(j4R s).all j7e) (fun g=>g.length) s ⟨by omega,rfl⟩ rfl rfl ?_
 rintro g ⟨hg,hall⟩;have hix:=jnv g;repeat'(first|apply gE<;>intro h|refine gX hix ?_)<;>conv=>whnf
 ·refine jdx hY g g ?_;repeat'(refine gU ?_)<;>conv=>whnf
  have e:j7e g=(j4R s).all j7e:=by
   rcases jjB g with⟨h1,h2⟩|⟨i,h1,_⟩
   ·rw[←hall,h2];simp
   ·omega
  refine⟨rfl,g,?_⟩;rw[←e];rfl
 ·obtain⟨i,h1,h2,h3⟩:∃i:Nat,Lib.indexByte g 46=i∧i<g.length∧j4R g=g.take i::j4R (g.drop (i+1)):=(jjB g).resolve_left (fun e=>by omega)
  rw[h1] at hix;rw[h1];have hs1:=jqH g i (by omega)
  have hs2:=jqI g (i+1) (by omega)
  refine VArith.fits (by unfold i64;omega) ?_
  rw[Int.add_zero];repeat'(first|refine VRes.mk _ hs1 ?_)<;>conv=>whnf
  refine jdx hY g (g.take i) ?_;repeat'(first|refine gU ?_|apply gM<;>intro h)<;>conv=>whnf
  ·refine VArith.fits (by
    show i64 ((i:Int)+((1:Nat):Int))
    unfold i64;omega) ?_
   repeat'(first|refine gU ?_|refine VRes.mk _ hs2 ?_)<;>conv=>whnf
   refine VAgain.mk _ rfl _ (j0X rfl) ⟨g.drop (i+1),⟨by simp;omega,?_⟩,by simp;omega,by rw[if_pos h];rfl⟩
   rw[←hall,h3,List.all_cons,h];rfl
  ·have e:(j4R s).all j7e=false:=by
    rw[←hall,h3,List.all_cons,h];rfl
   refine⟨rfl,g,?_⟩;rw[e,if_neg (by rw[h];exact Bool.false_ne_true)]
   rfl
open Go Go.Am Go.Gw
theorem j1W(s:List UInt8)(hs:s.length≤140737488355328):Pf C1 121 [sv s] [bv (j2G s)]:=by
 refine j00 Tryz.func121 rfl rfl rfl ?_;repeat'(first|refine gU ?_|apply gE<;>intro h)<;>conv=>whnf
 ·have:¬s.length≤40:=by simp[j2K] at *;omega
  rw[j2G,decide_eq_false this];rfl
 ·have h40:s.length≤40:=by simp[j2K] at *;omega
  refine j1b rfl (Finds.mono (jff s) ?_);rintro _ _ ⟨rfl,rfl⟩;refine⟨rfl,j1Y rfl ?_⟩;all_goals try conv=>whnf
  refine j0F rfl rfl rfl rfl rfl rfl (Finds.mono (jpS s hs _ _ _ _ ?_) ?_)
  ·intro g p;have hpt:=jqm p;refine j1U rfl rfl ?_;repeat'(first|refine gU ?_|apply gM<;>intro h|refine gX hpt ?_)<;>conv=>whnf
   ·exact⟨by rw[h],by rw[if_pos h];rfl⟩
   ·exact⟨by rw[h],by rw[if_neg (by rw[h];exact Bool.false_ne_true)];rfl⟩
  ·rintro _ _ ⟨rfl,g,rfl⟩;refine j1Y rfl ?_
   by_cases hpp:(j4R s).all j7e=true
   ·have hnm:j2G s=true:=by rw[j2G,decide_eq_true h40,hpp];rfl
    rw[if_pos hpp];repeat'(refine gU ?_)<;>conv=>whnf
    rw[hnm]
   ·have hnm:j2G s=false:=by rw[j2G,Bool.eq_false_iff.2 hpp,Bool.and_false]
    rw[if_neg hpp];repeat'(refine gU ?_)<;>conv=>whnf
    rw[hnm];rfl
def jh6(s:List UInt8):Prop:=s.length≤140737488355328
theorem jq8:NmOk jh6:=fun s hs=>j1W s hs
open Go Go.Am Go.Gw
theorem jhb(n:Int):Pf C1 190 [iv n] [encT (.mk 1 n [] [] [])]:=by
 refine j00 Tryz.func190 rfl rfl rfl ?_;repeat'(first|refine gU ?_|apply gE<;>intro h|apply gM<;>intro h|apply gK)<;>conv=>whnf
 rfl
theorem j5R(t:Tm)(v:PV)(h:TmP t v)(b:Bool)(z:Nat):Pf C1 70 [v,.sl b z []] [encT t]:=by
 have hf:=j3g t v h;obtain⟨k2,n2,s2,b2,z2,x2,c2,y2,ys2,he⟩:=j07 t;obtain⟨k0,n0,s0,ls0,ts0,b0,z0,xs,c,y,ys,rfl,rfl,hz,hxs,hlen,hbd,hy,hys,hlen2,hbd2,hsl⟩:=h.open;rw[he] at hf⊢;refine j00 Tryz.func70 rfl rfl rfl ?_;repeat'(first|refine gU ?_|apply gE<;>intro h|apply gM<;>intro h|refine gX hf ?_|apply gK)<;>conv=>whnf
 refine j03 (G:=Unit) (fun _=>[]) (fun _=>_) (fun _=>True) (fun _=>0) () trivial rfl rfl ?_
 rintro _ _;repeat'(first|refine gU ?_|apply gE<;>intro h|apply gM<;>intro h|apply gK)<;>conv=>whnf
 rfl
theorem j7S(k i d:Int)(hd:d≤4611686018427387904)(hd0:0≤d)(hk:1≤k)(hi:0≤i):Pf C1 294 [iv k,iv i,iv d] [iv (j0k (j0g k) i d)]:=by
 refine j00 Tryz.func294 rfl rfl rfl ?_;repeat'(first|refine gU ?_|apply gE<;>intro h|apply gM<;>intro h|apply gK)<;>conv=>whnf
 all_goals simp_all[j0k,j0g]
 all_goals omega
theorem jjT{x y:Operand}{a:Nat}(h:a≤140737488355328):j0j P .quo T x y (iv a) (iv 16)=some (iv (a/16:Nat)):=by
 have e:((a:Int).tdiv 16)=(a/16:Nat):=by rw[Int.tdiv_eq_ediv_of_nonneg (by omega)];rfl
 have hw:IntKind.i64.wrap ((a/16:Nat):Int)=(a/16:Nat):=by
  have h1:a/16≤a:=Nat.div_le_self a 16;apply wrap_i64;unfold i64;omega
 have hz:¬((16:Int)=0):=by omega
 simp only[j0j,j6E,eqGuard,binOp,Op.intDiv,e,hw,if_neg hz];rfl
theorem jtt(l:Lv)(q:Int)(h:0≤q):1≤lnF l q∧lnF l q≤q+1:=by
 have:=jgj l q h;have:=j5x l;omega
theorem jbf(q:Int)(h:0≤q):∀(ls:List Lv) (acc:Int),acc≤lnFs ls acc q
 |[],acc=>by simp[lnFs]
 |l::r,acc=>by
  rw[lnFs];split
  ·have:=jbf q h r (acc+lnF l q);have:=jtt l q h;omega
  ·omega
mutual
theorem jbU:∀(t:Tm) (q:Int),0≤q→1≤useN t q∧useN t q≤q+1
 | .mk _ _ s ls ts,q,h=>by
  rw[useN];have:=jk3 ts (lnFs ls (1+((s.length/16:Nat):Int)) q) q h;have:=jbf q h ls (1+((s.length/16:Nat):Int));omega
theorem jk3:∀(ts:List Tm) (acc q:Int),0≤q→acc≤jbV ts acc q
 |[],acc,q,h=>by simp[jbV]
 |t::r,acc,q,h=>by
  rw[jbV];split
  ·have:=jk3 r (acc+useN t q) q h;have:=jbU t q h;omega
  ·omega
end
mutual
theorem jov:∀(t:Tm) (q:Int),0≤q→1≤refN t q∧refN t q≤q+1
 | .mk _ _ s ls ts,q,h=>by
  rw[refN];have:=jan ts (lnFs ls 1 q) q h;have:=jbf q h ls 1;omega
theorem jan:∀(ts:List Tm) (acc q:Int),0≤q→acc≤jeP ts acc q
 |[],acc,q,h=>by simp[jeP]
 |t::r,acc,q,h=>by
  rw[jeP];split
  ·have:=jan r (acc+refN t q) q h;have:=jov t q h;omega
  ·omega
end
theorem j3q(t:Tm):∀v,TmP t v→∀(q:Int),0≤q→q≤1000000→Pf C1 54 [v,iv q] [iv (useN t q)]:=by
 induction t using Tm.ind with
 |_ k nn s ls ts ih=>
 intro v h q h0 h1;obtain⟨_,_,_,_,_,b,z,xs,c,y,ys,⟨rfl,rfl,rfl,rfl,rfl⟩,rfl,hz,hxs,hlen,hbd,hy,hys,hlen2,hbd2,hsl⟩:=h.open;have hsz:ByteArray.size ⟨s.toArray⟩=s.length:=by simp[j2K]
 have hdv:s.length/16≤s.length:=Nat.div_le_self _ _;refine j00 Tryz.func54 rfl rfl rfl ?_;repeat'(first|refine gU ?_|apply gE<;>intro h|apply gM<;>intro h|apply gK)<;>conv=>whnf
 refine VRes.mk _ (jjT (by rw[hsz];omega)) ?_
 rw[hsz];repeat'(first|refine gU ?_|apply gE<;>intro h|apply gM<;>intro h|apply gK)<;>conv=>whnf
 refine j03 (G:=Nat×Int) (fun g=>[(6,iv g.1),(5,iv g.2)]) (fun g=>_) (fun g=>g.1≤ls.length∧1≤g.2∧g.2≤8796093022210+2*q∧lnFs (ls.drop g.1) g.2 q=lnFs ls (1+((s.length/16:Nat):Int)) q) (fun g=>ls.length-g.1) (0,1+((s.length/16:Nat):Int)) ⟨by omega,by dsimp only;omega,by dsimp only;omega,rfl⟩ rfl rfl ?_
 rintro⟨i,acc⟩ ⟨hi,ha1,ha2,hacc⟩;dsimp only at hi ha1 ha2 hacc⊢;repeat'(first|refine gU ?_|apply gE<;>intro h|apply gM<;>intro h|apply gK)<;>conv=>whnf
 ·have hi':i<ls.length:=by omega
  obtain⟨lc,hlc⟩:∃lc,ls[i]?=some lc:=⟨_,List.getElem?_eq_getElem hi'⟩;obtain⟨v,hv,hl⟩:=hxs.at hlc;have hrec:=jcp lc _ hl q h0 h1;have hx:=jgj lc q h0;have hxp:=j5x lc;obtain⟨k1,n1,l1,b1,z1,x1,rfl,rfl,hz1,hxs1,hlen1,hbd1⟩:=hl.open;refine VIdx.mk _ hv (VOk.mk (j0N rfl hz) ?_);repeat'(first|refine gU ?_|apply gE<;>intro h|apply gM<;>intro h|refine gX hrec ?_|apply gK)<;>conv=>whnf
  refine VAgain.mk _ rfl _ (j0a rfl rfl rfl) ⟨(i+1,acc+lnF (.mk k1 n1 l1) q),⟨hi',by dsimp only;omega,by dsimp only;omega,?_⟩,by dsimp only;omega,rfl⟩
  rw[←hacc,drop_at hlc,lnFs,if_pos (by omega)]
 all_goals
  have e:lnFs ls (1+((s.length/16:Nat):Int)) q=acc:=by
   rw[←hacc]
   by_cases hil:i<ls.length
   ·obtain⟨lc,hlc⟩:∃lc,ls[i]?=some lc:=⟨_,List.getElem?_eq_getElem hil⟩;rw[drop_at hlc,lnFs,if_neg (by omega)]
   ·rw[List.drop_of_length_le (by omega),lnFs]
  clear hacc;refine j03 (G:=Nat×Int) (fun g=>[(7,iv g.1),(5,iv g.2)]) (fun g=>_) (fun g=>g.1≤ts.length∧1≤g.2∧g.2≤8796093022210+2*q∧jbV (ts.drop g.1) g.2 q=jbV ts acc q) (fun g=>ts.length-g.1) (0,acc) ⟨by omega,by dsimp only;omega,by dsimp only;omega,rfl⟩ rfl rfl ?_
  rintro⟨j,ac2⟩ ⟨hj,hb1,hb2,hacc2⟩;dsimp only at hj hb1 hb2 hacc2⊢;repeat'(first|refine gU ?_|apply gE<;>intro h|apply gM<;>intro h|apply gK)<;>conv=>whnf
  ·have hj':j<ts.length:=by omega
   obtain⟨tc,htc⟩:∃tc,ts[j]?=some tc:=⟨_,List.getElem?_eq_getElem hj'⟩;obtain⟨v,hv,hl⟩:=hys.at htc;have hrec:=ih _ (List.mem_of_getElem? htc) _ hl q h0 h1;have hx:=jbU tc q h0;obtain⟨k1,n1,s1,l1,t1,b1,z1,x1,c1,y1,ys1,rfl,rfl,hz1,hxs1,hlen1,hbd1,hy1,hys1,hlen21,hbd21,hsl1⟩:=hl.open;refine VIdx.mk _ hv (VOk.mk (j0N rfl hy) ?_);repeat'(first|refine gU ?_|apply gE<;>intro h|apply gM<;>intro h|refine gX hrec ?_|apply gK)<;>conv=>whnf
   refine VAgain.mk _ rfl _ (j0a rfl rfl rfl) ⟨(j+1,ac2+useN (.mk k1 n1 s1 l1 t1) q),⟨hj',by dsimp only;omega,by dsimp only;omega,?_⟩,by dsimp only;omega,rfl⟩
   rw[←hacc2,drop_at htc,jbV,if_pos (by omega)]
  all_goals
   have e2:jbV ts acc q=ac2:=by
    rw[←hacc2]
    by_cases hjl:j<ts.length
    ·obtain⟨tc,htc⟩:∃tc,ts[j]?=some tc:=⟨_,List.getElem?_eq_getElem hjl⟩;rw[drop_at htc,jbV,if_neg (by omega)]
    ·rw[List.drop_of_length_le (by omega),jbV]
   rw[useN,e,e2,←j8r]
open Go Go.Am Go.Gw
def juG(op:BinOp)(a b:Int)(K:PV→Prop):Prop:=match op with
 | .lss=>K (bv (decide (a<b)))
 | .gtr=>K (bv (decide (b<a)))
 | .leq=>K (bv (decide (a≤b)))
 | .geq=>K (bv (decide (b≤a)))
 | .eql=>K (bv (a == b))
 |_=>False
theorem j2g{a b:Bool}(h:a=b):AEnd.ret [bv a]=AEnd.ret [bv b]:=by rw[h]
def letC(c:UInt8):Bool:=decide (97≤c.toNat∧c.toNat≤122∨c.toNat=95)
def digC(c:UInt8):Bool:=decide (48≤c.toNat∧c.toNat≤57)
def rnF:List UInt8→Bool→Bool
 |[],first=>!first
 |c::r,first=>if c.toNat=46 then(if first then false else rnF r true) else if(letC c||(digC c && !first))=true then rnF r false else false
mutual
def sizT:Tm→Nat
 | .mk _ _ _ ls ts=>1+j0c ls+j0t ts
def j0t:List Tm→Nat
 |[]=>0
 |t::r=>sizT t+j0t r
end
theorem jbg(q:Int)(h:0≤q):∀(ls:List Lv) (acc:Int),0≤acc→(acc+j0c ls≤q→lnFs ls acc q=acc+j0c ls)∧(q<acc+j0c ls→q<lnFs ls acc q)
 |[],acc,h0=>by simp[lnFs,j0c]
 |l::r,acc,h0=>by
  have h1:=jgj l q h;have h2:=j5x l;rw[lnFs,j0c]
  by_cases hq:acc≤q
  ·rw[if_pos hq];have ih:=jbg q h r (acc+lnF l q) (by omega)
   constructor
   ·intro h3;rw[ih.1 (by omega)]
    omega
   ·intro h3
    by_cases h4:(j0M l:Int)≤q+1
    ·exact ih.2 (by omega)
    ·have:=jbf q h r (acc+lnF l q);omega
  ·rw[if_neg hq];omega
mutual
theorem jsJ:∀(t:Tm) (q:Int),0≤q→refN t q=min (sizT t:Int) (q+1)
 | .mk _ _ s ls ts,q,h=>by
  rw[refN,sizT];have h1:=jbg q h ls 1 (by omega)
  have h2:=jbf q h ls 1
  by_cases h3:1+(j0c ls:Int)≤q
  ·have h4:=jjH ts (lnFs ls 1 q) q h (by omega)
   rw[h1.1 h3] at h4 ⊢
   by_cases h5:1+(j0c ls:Int)+j0t ts≤q
   ·rw[h4.1 h5];omega
   ·have:=h4.2 (by omega);omega
  ·have h4:=h1.2 (by omega)
   have:=jan ts (lnFs ls 1 q) q h;omega
theorem jjH:∀(ts:List Tm) (acc q:Int),0≤q→0≤acc→(acc+j0t ts≤q→jeP ts acc q=acc+j0t ts)∧(q<acc+j0t ts→q<jeP ts acc q)
 |[],acc,q,h,h0=>by simp[jeP,j0t]
 |t::r,acc,q,h,h0=>by
  have h1:=jsJ t q h;have h2:1≤refN t q:=(jov t q h).1;rw[jeP,j0t]
  by_cases hq:acc≤q
  ·rw[if_pos hq];have ih:=jjH r (acc+refN t q) q h (by omega)
   constructor
   ·intro h3;rw[ih.1 (by omega)]
    omega
   ·intro h3
    by_cases h4:(sizT t:Int)≤q+1
    ·exact ih.2 (by omega)
    ·have:=jan r (acc+refN t q) q h;omega
  ·rw[if_neg hq];omega
end
mutual
theorem jmJ:∀(t:Tm) (left:Int),0≤left→((sizT t:Int)≤left→cntT t left=left-sizT t)∧(left<(sizT t:Int)→cntT t left = -1)
 | .mk _ _ s ls ts,left,h=>by
  rw[cntT,sizT];have h1:=j8Y ls (left-1) (by omega)
  have hg:=j4x ls (left-1) (by omega)
  by_cases h3:(j0c ls:Int)≤left-1
  ·rw[h1.1 h3];have h4:=jiT ts (left-1-j0c ls) (by omega)
   constructor
   ·intro h5;rw[h4.1 (by omega)]
    omega
   ·intro h5
    by_cases hts:ts=[]
    ·subst hts;simp only[j0t] at h5;omega
    ·exact h4.2 (by omega) hts
  ·by_cases h6:left=0
   ·subst h6;rw[j3O _ _ (by omega),j4w _ _ (by omega)]
    constructor
    ·intro;omega
    ·intro;rfl
   ·have h2:ls≠[]:=by
     rintro rfl;simp only[j0c] at h3;omega
    rw[h1.2 (by omega) h2,j4w _ _ (by omega)]
    constructor
    ·intro;omega
    ·intro;rfl
theorem jiT:∀(ts:List Tm) (left:Int),-1≤left→((j0t ts:Int)≤left→j5h ts left=left-j0t ts)∧(left<(j0t ts:Int)→ts≠[]→j5h ts left = -1)
 |[],left,h=>by simp[j5h,j0t]
 |t::r,left,h=>by
  rw[j5h,j0t]
  by_cases h0:left<0
  ·rw[if_pos h0];have:1≤sizT t:=by cases t;simp[sizT];omega
   constructor
   ·intro;omega
   ·intro;omega
  ·rw[if_neg h0];have h1:=jmJ t left (by omega)
   by_cases h2:(sizT t:Int)≤left
   ·rw[h1.1 h2];have ih:=jiT r (left-sizT t) (by omega)
    constructor
    ·intro h3;rw[ih.1 (by omega)]
     omega
    ·intro h3 _
     by_cases hr:r=[]
     ·subst hr;simp only[j0t] at h3;omega
     ·exact ih.2 (by omega) hr
   ·rw[h1.2 (by omega),j4w _ _ (by omega)]
    constructor
    ·intro;omega
    ·intro;simp
end
theorem j2A(t:Tm):j0v t=min (sizT t:Int) 2001:=by
 have:=jmJ t 2000 (by omega)
 unfold j0v
 by_cases h:(sizT t:Int)≤2000
 ·rw[this.1 h];omega
 ·rw[this.2 (by omega)];omega
def anyT(t:Tm):Bool:=j0w t 4 1125899906842624
open Go Go.Am Go.Gw
mutual
theorem TmP.names:∀{t:Tm}{v:PV},TmP t v→NmT jh6 t
 | .mk k n s ls ts,v,h=>by
  simp only[TmP] at h;obtain⟨b,z,xs,c,y,ys,rfl,hz,hxs,hbd,hy,hys,hbd2,hsl,hi⟩:=h;simp only[NmT];exact⟨hsl,TmsP.names hys⟩
theorem TmsP.names:∀{ts:List Tm}{xs:List PV},TmsP ts xs→NmTs jh6 ts
 |[],xs,h=>by simp only[NmTs]
 |t::r,xs,h=>by
  simp only[TmsP] at h;obtain⟨v,xs',rfl,h1,h2⟩:=h;simp only[NmTs];exact⟨TmP.names h1,TmsP.names h2⟩
end
theorem j0I(t:Tm)(v:PV)(h:TmP t v)(n kk:Int):Pf C1 99 [v,iv n,iv kk] [bv (j0w t n kk)]:=jlC jq8 t v h h.names n kk
theorem j5d(t:Tm)(v:PV)(h:TmP t v):Pf C1 206 [v] [bv (anyT t)]:=by
 have hr:=j0I t v h 4 1125899906842624;obtain⟨k,nn,s,ls,ts,b,z,xs,c,y,ys,rfl,rfl,hz,hxs,hlen,hbd,hy,hys,hlen2,hbd2,hsl⟩:=h.open;refine j00 Tryz.func206 rfl rfl rfl ?_;repeat'(first|refine gU ?_|refine gX hr ?_)<;>conv=>whnf
 all_goals rfl
theorem jdS(t:Tm)(v:PV)(h:TmP t v):Pf C1 212 [v] [bv (!anyT t)]:=by
 have hr:=j5d t v h;obtain⟨k,nn,s,ls,ts,b,z,xs,c,y,ys,rfl,rfl,hz,hxs,hlen,hbd,hy,hys,hlen2,hbd2,hsl⟩:=h.open;refine j00 Tryz.func212 rfl rfl rfl ?_;repeat'(first|refine gU ?_|refine gX hr ?_)<;>conv=>whnf
 all_goals rfl
def jms(k:Int):Bool:=decide (k=6∨k=5)
mutual
def j7n:Tm→Int→Int
 | .mk k n _ _ ts,d=>if k=1 then max (n-d+1) 0 else j4r ts k 0 d 0
def j4r:List Tm→Int→Int→Int→Int→Int
 |[],_,_,_,acc=>acc
 |t::r,k,i,d,acc=>j4r r k (i+1) d (max acc (j7n t (j0k (j0g k) i d)))
end
theorem j2t:∀{ts:List Tm}{k p kk:Int}{i:Int}{j:Nat}{tc:Tm},j0T ts k i p kk=true→ts[j]?=some tc→allT tc p (j0k (j0g k) (i+j) kk)=true
 |[],k,p,kk,i,j,tc,h,hj=>by simp at hj
 |t::r,k,p,kk,i,j,tc,h,hj=>by
  simp only[j0T,Bool.and_eq_true] at h;cases j with
  |zero=>
   simp at hj;subst hj;simpa using h.1
  |succ j=>
   have:=j2t h.2 (by simpa using hj:r[j]?=some tc)
   rwa [show i+1+(j:Int)=i+((j+1:Nat):Int) by omega] at this
theorem j0r{k n:Int}{ls:List Lv}{ts:List Tm}{p kk:Int}(h:allT (.mk k n s ls ts) p kk=true):(1≤k∧k≤7)∧(ts.length:Int)=j1f k∧j3W (.mk k n s ls ts) kk=true∧j1F ls p=true∧j0T ts k 0 p kk=true:=by
 simpa[allT,and_assoc] using h
theorem j2e(b i d:Int):d≤j0k b i d∧j0k b i d≤d+1:=by
 unfold j0k;split<;>omega
def jur(t:Tm):Int:=if anyT t=true then j7n t 0 else 0
theorem j2u(h:anyT t=true):j0v t≤2000∧allT t 4 1125899906842624=true:=by
 simpa[anyT,j0w] using h
theorem j5b(h:anyT t=true):depT t≤2000:=jgs (j2u h).1
def jtf(kind:Int):Tm→Nat
 | .mk k n s ls ts=>match ts with
  |[a,b]=>if(jms kind&&(anyT (.mk k n s ls [a,b])&&decide (k=kind)))=true then jtf kind b+1 else 0
  |_=>0
open Go Go.Am Go.Gw
def jrD(kind:Int):Nat→Tm→Option (List Tm×Tm)
 |0,t=>some ([],t)
 |n+1,.mk k _ _ _ ts=>match ts with
  |[a,b]=>if k=kind then(jrD kind n b).map fun r=>(a::r.1,r.2) else none
  |_=>none
def jus(t:Tm)(kind n:Int):Option (List Tm×Tm):=if(anyT t&&(jms kind&&decide (0≤n)))=true then jrD kind n.toNat t else none
def tz:Tm:=.mk 0 0 [] [] []
def splitV(o:Option (List Tm×Tm)):List PV:=match o with
 |some (l,b)=>[j7Z l,encT b,bv true]
 |none=>[.sl true 0 [],encT tz,bv false]
end Go.Proofs.YtbnodhcijeaceaaGreatDoor

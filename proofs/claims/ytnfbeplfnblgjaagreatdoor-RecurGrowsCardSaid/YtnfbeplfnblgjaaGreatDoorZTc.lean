/- What package name finds: a part of a name. -/
import Derived.Test.YtnfbeplfnblgjaaGreatDoorZVo
import Derived.Test.YtnfbeplfnblgjaaGreatDoorZPt
set_option linter.all false
set_option maxHeartbeats 2000000
set_option maxRecDepth 100000
namespace Go.Proofs.YtnfbeplfnblgjaaGreatDoor
open Go Go.Am Go.Gw
theorem j8G(s:ByteArray)(i:Nat)(h:(s.get! i).toNat<128):Utf8.decode s i=((s.get! i).toNat,1):=by
 unfold Utf8.decode;simp only[Nat.add_zero];rw[if_pos h]
theorem decode_high(s:ByteArray)(i:Nat)(h:¬(s.get! i).toNat<128):128≤(Utf8.decode s i).1:=by
 unfold Utf8.decode;simp only[Nat.add_zero];rw[if_neg h];repeat' split
 all_goals simp_all[Utf8.runeError]
 all_goals omega
theorem get_at(s:List UInt8)(i:Nat)(h:i<s.length):(⟨s.toArray⟩:ByteArray).get! i=s[i]:=by
 simp[ByteArray.get!,h]
theorem j6B(c:UInt8):j1N c.toNat=j4j c:=by
 rw[Bool.eq_iff_iff];simp[j1N,j4j,UInt8.le_iff_toNat_le,←UInt8.toNat_inj];omega
theorem j7U(s:List UInt8):∀(f pos:Nat),s.length≤pos+f→(Lib.idxFuncFrom (fun c=>!j1N c) true ⟨s.toArray⟩ f pos<0↔(s.drop pos).all j4j=true)
 |0,pos,h=>by
  rw[List.drop_of_length_le (by omega)]
  simp[Lib.idxFuncFrom]
 |f+1,pos,h=>by
  by_cases hp:pos<s.length
  ·have hsz:pos<(⟨s.toArray⟩:ByteArray).size:=by rw[j1n];exact hp
   have hg:=get_at s pos hp;rw[Lib.idxFuncFrom,if_pos hsz,List.drop_eq_getElem_cons hp,List.all_cons]
   by_cases hl:((⟨s.toArray⟩:ByteArray).get! pos).toNat<128
   ·rw[j8G _ _ hl,hg];simp only[j6B];have ih:=j7U s f (pos+1) (by omega)
    cases hc:j4j s[pos]
    ·simp
    ·simp[ih]
   ·have hh:=decode_high _ _ hl;have h1:j1N (Utf8.decode ⟨s.toArray⟩ pos).1=false:=by
     simp only[j1N,decide_eq_false_iff_not];omega
    have h2:j4j s[pos]=false:=by
     rw[←j6B];rw[hg] at hl;simp only[j1N,decide_eq_false_iff_not];omega
    rw[h1,h2];simp
  ·rw[List.drop_of_length_le (by omega),Lib.idxFuncFrom_end _ _ _ _ _ (by rw[j1n];exact hp)]
   simp
theorem jag(s:List UInt8):decide (Lib.idxFunc (fun c=>!j1N c) true ⟨s.toArray⟩<0)=s.all j4j:=by
 have:=j7U s (⟨s.toArray⟩:ByteArray).size 0 (by rw[j1n];omega)
 rw[Bool.eq_iff_iff,decide_eq_true_eq];simpa[Lib.idxFunc] using this
theorem j5p(s:List UInt8):Pf C1 164 [sv s,.fn 162 [] []] [iv (Lib.idxFunc (fun c=>!j1N c) true ⟨s.toArray⟩)]:=pf_nat rfl rfl
variable{a b:Int}{x y:Operand}{P:Program}{T:TypeId}
theorem idx0{ρ:AEnv}{c:UInt8}{r:List UInt8}(hx:aval ρ x=some (sv (c::r)))(hy:aval ρ y=some (iv 0)):aIndex C1.P ρ 9 x y=some (.sc (.int .u8 c.toNat)):=by
 simp only[aIndex,hx,hy];rfl
theorem jdQ:slowBin P .lss T x y (.sc (.int .u8 a)) (.sc (.int .u8 b))=some (bv (decide (a<b))):=by
 simp only[slowBin,toVal,eqGuard,binOp,Op.intCmp];rfl
theorem jdP:slowBin P .gtr T x y (.sc (.int .u8 a)) (.sc (.int .u8 b))=some (bv (decide (b<a))):=by
 simp only[slowBin,toVal,eqGuard,binOp,Op.intCmp];rfl
def u8Op(op:BinOp)(a b:Int)(K:PV→Prop):Prop:=match op with
 | .lss=>K (bv (decide (a<b)))
 | .gtr=>K (bv (decide (b<a)))
 |_=>False
theorem jd1{op:BinOp}{K:PV→Prop}(h:u8Op op a b K):VRes (slowBin P op T x y (.sc (.int .u8 a)) (.sc (.int .u8 b))) K:=by
 cases op with
 |lss=>exact⟨_,jdQ,h⟩
 |gtr=>exact⟨_,jdP,h⟩
 |_=>exact h.elim
theorem jbM(s:List UInt8):Pf C1 102 [sv s] [bv (j2F s)]:=by
 have hi:=j5p s;have hp:=jag s;cases s with
 |nil=>
  refine run_intro Tryz.func102 rfl rfl rfl ?_;repeat'(first|refine gU ?_|refine j2b ?_)<;>conv=>whnf
  all_goals first|rfl|(rename_i h;simp at h)|simp_all
 |cons c r=>
  refine run_intro Tryz.func102 rfl rfl rfl ?_;repeat'(first|refine gU ?_|apply gE<;>intro h|refine j2b ?_|refine VRes.mk _ (idx0 rfl rfl) ?_|refine jd1 ?_|refine gX hi ?_)<;>conv=>whnf
  all_goals
   have hd:(48≤c&&c≤57)=decide (48≤c.toNat∧c.toNat≤57):=by
    rw[Bool.eq_iff_iff];simp[UInt8.le_iff_toNat_le]
  ·rw[hp,j2F,hd,decide_eq_false (by omega)]
   rfl
  ·rw[hp,j2F,hd,decide_eq_false (by omega)]
   rfl
  ·rw[j2F,hd,decide_eq_true (by omega)]
   rfl
open Go Go.Am Go.Gw
theorem j6G(s:List UInt8):Finds C1 161 [sv s,sv [46],iv 0] [] fun r st=>r=.ret [.fn 208 [] [.bp 1 0,.bp 0 0,.bp 2 0]]∧st=[.box 9 [sv s],.box 9 [sv [46]],.box 3 [iv 0]]:=by
 refine run_intro Tryz.func161 rfl rfl rfl ?_;all_goals try conv=>whnf
 exact VRet.mk [.fn 208 [] [.bp 1 0,.bp 0 0,.bp 2 0]] [.box 9 [sv s],.box 9 [sv [46]],.box 3 [iv 0]] (by kernel_rfl) ⟨rfl,rfl⟩
theorem j5Q(s:List UInt8):Finds C1 101 [sv s,sv [46]] [] fun r st=>r=.ret [.fn 208 [] [.bp 1 0,.bp 0 0,.bp 2 0]]∧st=[.box 9 [sv s],.box 9 [sv [46]],.box 3 [iv 0]]:=by
 refine run_intro Tryz.func101 rfl rfl rfl ?_;all_goals try conv=>whnf
 refine vcall_made rfl (Finds.mono (j6G s) ?_);rintro _ _ ⟨rfl,rfl⟩;refine⟨rfl,vback rfl ?_⟩;all_goals try conv=>whnf
 exact VRet.mk [.fn 208 [] [.bp 1 0,.bp 0 0,.bp 2 0]] [.box 9 [sv s],.box 9 [sv [46]],.box 3 [iv 0]] (by kernel_rfl) ⟨rfl,rfl⟩
theorem jai(g:List UInt8):Pf C1 210 [sv g,sv [46]] [iv (Lib.indexByte g 46)]:=pf_nat rfl rfl
open Go Go.Am Go.Gw
theorem j3g{α β:Type}{f:α→Sem β}:∀{s:Sem α}{a:α},qrun P s=some a→qrun P (s.bind f)=qrun P (f a):=by
 intro s
 induction s with
 |pure x=>intro a h;simp only[qrun,Option.some.injEq] at h;subst h;rfl
 |program k ih=>intro a h;exact ih P h
 |mark m k ih=>intro a h;exact ih h
 |_=>intro a h;simp[qrun] at h
theorem j2D{d:TypeDesc}(h:P.underlying T=some d):qrun P (underlying T)=some d:=by
 unfold underlying;simp[bind,Sem.bind,qrun,program,h];rfl
theorem jbQ(g:List UInt8)(i:Nat)(h:i≤g.length):strSlice C1.P 9 (str g) none (some (iv i)) none=some (sv (g.take i)):=by
 have h0:(0:Int)≤(i:Int)∧(i:Int)≤(g.length:Int):=by omega
 have hT:C1.P.underlying 9=some .string:=by kernel_rfl
 have e:qrun C1.P (Instr.sliceAt 9 (str g) none (some (.int .i64 i)) none)=some (str (g.take i)):=by
  unfold Instr.sliceAt;simp only[bind];rw[j3g (j2D hT)];simp[Instr.slice,Instr.sliceBounds,Instr.sliceBound,asIntOf,j1n,h0,j2v,qrun,bind,Sem.bind];rw[j3g (j2D hT)];simp[pure,Sem.bind,j1n,h0,j2v,qrun,h]
 show(qrun C1.P (Instr.sliceAt 9 (str g) none (some (.int .i64 i)) none)).bind ofVal=_
 rw[e];rfl
theorem jbR(g:List UInt8)(i:Nat)(h:i≤g.length):strSlice C1.P 9 (str g) (some (iv i)) none none=some (sv (g.drop i)):=by
 have h0:(0:Int)≤(i:Int)∧(i:Int)≤(g.length:Int):=by omega
 have hT:C1.P.underlying 9=some .string:=by kernel_rfl
 have e:qrun C1.P (Instr.sliceAt 9 (str g) (some (.int .i64 i)) none none)=some (str (g.drop i)):=by
  unfold Instr.sliceAt;simp only[bind];rw[j3g (j2D hT)];simp[Instr.slice,Instr.sliceBounds,Instr.sliceBound,asIntOf,j1n,h0,j2v,qrun,bind,Sem.bind];rw[j3g (j2D hT)];simp[pure,Sem.bind,j1n,h0,j2v,qrun,h];try exact List.take_of_length_le (by simp)
 show(qrun C1.P (Instr.sliceAt 9 (str g) (some (.int .i64 i)) none none)).bind ofVal=_
 rw[e];rfl
open Go Go.Am Go.Gw
theorem split_at:∀(g acc:List UInt8),(Lib.indexByte g 46 = -1∧j0U acc g=[acc.reverse++g])∨(∃i:Nat,Lib.indexByte g 46=i∧i<g.length∧j0U acc g=(acc.reverse++g.take i)::j0U [] (g.drop (i+1)))
 |[],acc=>.inl ⟨rfl,by simp[j0U]⟩
 |c::r,acc=>by
  by_cases hc:(c == 46)=true
  ·refine .inr ⟨0,?_,by simp,?_⟩
   ·rw[Lib.indexByte,if_pos hc];try rfl
   ·rw[j0U,if_pos hc];simp
  ·rcases split_at r (c::acc) with⟨h1,h2⟩|⟨i,h1,h2,h3⟩
   ·refine .inl ⟨?_,?_⟩
    ·rw[Lib.indexByte,if_neg hc,h1];try rfl
    ·rw[j0U,if_neg hc,h2];simp
   ·refine .inr ⟨i+1,?_,by simp;omega,?_⟩
    ·rw[Lib.indexByte,if_neg hc,h1,if_neg (by first|omega|simp)];try rfl
    ·rw[j0U,if_neg hc,h3];simp
theorem j8j(g:List UInt8):(Lib.indexByte g 46 = -1∧j1M g=[g])∨(∃i:Nat,Lib.indexByte g 46=i∧i<g.length∧j1M g=g.take i::j1M (g.drop (i+1))):=by
 simpa[j1M] using split_at g []
def lpS(s:List UInt8)(v5 v6:Value)(a b:Code)(x:LpS):SO:=.lp [(8,.fn 208 [] [.bp 1 0,.bp 2 0,.bp 3 0]),(7,sv s),(6,.sc v6),(5,.sc v5),(4,sv s),(2,.bp 4 0),(0,sv s)] [9] a b x
def jbX(s:List UInt8)(v5 v6:Value)(a b:Code):Prop:=∀(g p:List UInt8),FindsY C1 [.yl 0,sv p] [lpS s v5 v6 a b .ready,.box 9 [sv [46]],.box 9 [sv g],.box 3 [iv 0],.box 4 [bv false]] fun r st=>
 r=.ret [bv (j2F p)]∧st=[lpS s v5 v6 a b (if j2F p=true then .ready else .done none),.box 9 [sv [46]],.box 9 [sv g],.box 3 [iv 0],.box 4 [bv false]]
theorem j4O{s:List UInt8}{v5 v6:Value}{a b:Code}(hY:jbX s v5 v6 a b)(g p:List UInt8){K:AR→Prop}
  (k:K (.val (bv (j2F p)) [lpS s v5 v6 a b (if j2F p=true then .ready else .done none),.box 9 [sv [46]],.box 9 [sv g],.box 3 [iv 0],.box 4 [bv false]])) :
  VYield C1 0 [sv p] [lpS s v5 v6 a b .ready,.box 9 [sv [46]],.box 9 [sv g],.box 3 [iv 0],.box 4 [bv false]] K:=by
 refine jci rfl rfl rfl rfl rfl (j0z (hY g p) ?_);rintro _ _ ⟨rfl,rfl⟩;exact vback rfl k
theorem jbz(s:List UInt8)(hs:s.length≤140737488355328)(v5 v6:Value)(a b:Code)(hY:jbX s v5 v6 a b):Finds C1 208 [.yl 0,.bp 1 0,.bp 2 0,.bp 3 0] [lpS s v5 v6 a b .ready,.box 9 [sv [46]],.box 9 [sv s],.box 3 [iv 0],.box 4 [bv false]] fun r st=>
  r=.ret []∧∃g,st=[lpS s v5 v6 a b (if(j1M s).all j2F=true then .ready else .done none),.box 9 [sv [46]],.box 9 [sv g],.box 3 [iv 0],.box 4 [bv false]]:=by
 refine run_intro Tryz.func208 rfl rfl rfl ?_;repeat'(refine gU ?_)<;>conv=>whnf
 refine loop_over (G:=List UInt8) (fun _=>[]) (fun g=>[_,.box 9 [sv [46]],.box 9 [sv g],.box 3 [iv 0],.box 4 [bv false]]) (fun g=>g.length≤s.length∧(j1M g).all j2F=(j1M s).all j2F) (fun g=>g.length) s ⟨by omega,rfl⟩ rfl rfl ?_
 rintro g ⟨hg,hall⟩;have hix:=jai g;repeat'(first|apply gE<;>intro h|refine gX hix ?_)<;>conv=>whnf
 ·refine j4O hY g g ?_;repeat'(refine gU ?_)<;>conv=>whnf
  have e:j2F g=(j1M s).all j2F:=by
   rcases j8j g with⟨h1,h2⟩|⟨i,h1,_⟩
   ·rw[←hall,h2];simp
   ·omega
  refine⟨rfl,g,?_⟩;rw[←e];rfl
 ·obtain⟨i,h1,h2,h3⟩:∃i:Nat,Lib.indexByte g 46=i∧i<g.length∧j1M g=g.take i::j1M (g.drop (i+1)):=(j8j g).resolve_left (fun e=>by omega)
  rw[h1] at hix;rw[h1];have hs1:=jbQ g i (by omega)
  have hs2:=jbR g (i+1) (by omega)
  refine VArith.fits (by unfold i64;omega) ?_
  rw[Int.add_zero];repeat'(first|refine VRes.mk _ hs1 ?_)<;>conv=>whnf
  refine j4O hY g (g.take i) ?_;repeat'(first|refine gU ?_|apply gM<;>intro h)<;>conv=>whnf
  ·refine VArith.fits (by
    show i64 ((i:Int)+((1:Nat):Int))
    unfold i64;omega) ?_
   repeat'(first|refine gU ?_|refine VRes.mk _ hs2 ?_)<;>conv=>whnf
   refine VAgain.mk _ rfl _ (gc_same rfl) ⟨g.drop (i+1),⟨by simp;omega,?_⟩,by simp;omega,by rw[if_pos h];rfl⟩
   rw[←hall,h3,List.all_cons,h];rfl
  ·have e:(j1M s).all j2F=false:=by
    rw[←hall,h3,List.all_cons,h];rfl
   refine⟨rfl,g,?_⟩;rw[e,if_neg (by rw[h];exact Bool.false_ne_true)]
   rfl
open Go Go.Am Go.Gw
theorem j1X(s:List UInt8)(hs:s.length≤140737488355328):Pf C1 53 [sv s] [bv (j1t s)]:=by
 refine run_intro Tryz.func53 rfl rfl rfl ?_;repeat'(first|refine gU ?_|apply gE<;>intro h)<;>conv=>whnf
 ·have:¬s.length≤40:=by simp[j1n] at *;omega
  rw[j1t,decide_eq_false this];rfl
 ·have h40:s.length≤40:=by simp[j1n] at *;omega
  refine vcall_made rfl (Finds.mono (j5Q s) ?_);rintro _ _ ⟨rfl,rfl⟩;refine⟨rfl,vback rfl ?_⟩;all_goals try conv=>whnf
  refine vcall_st rfl rfl rfl rfl rfl rfl (Finds.mono (jbz s hs _ _ _ _ ?_) ?_)
  ·intro g p;have hpt:=jbM p;refine j0l rfl rfl ?_;repeat'(first|refine gU ?_|apply gM<;>intro h|refine gX hpt ?_)<;>conv=>whnf
   ·exact⟨by rw[h],by rw[if_pos h];rfl⟩
   ·exact⟨by rw[h],by rw[if_neg (by rw[h];exact Bool.false_ne_true)];rfl⟩
  ·rintro _ _ ⟨rfl,g,rfl⟩;refine vback rfl ?_
   by_cases hpp:(j1M s).all j2F=true
   ·have hnm:j1t s=true:=by rw[j1t,decide_eq_true h40,hpp];rfl
    rw[if_pos hpp];repeat'(refine gU ?_)<;>conv=>whnf
    rw[hnm]
   ·have hnm:j1t s=false:=by rw[j1t,Bool.eq_false_iff.2 hpp,Bool.and_false]
    rw[if_neg hpp];repeat'(refine gU ?_)<;>conv=>whnf
    rw[hnm];rfl
def j6L(s:List UInt8):Prop:=s.length≤140737488355328
theorem jbG:NmOk j6L:=fun s hs=>j1X s hs
open Go Go.Am Go.Gw
open Go Go.Am Go.Gw
theorem j6N(n:Int):Pf C1 22 [iv n] [encT (.mk 1 n [] [] [])]:=by
 refine run_intro Tryz.func22 rfl rfl rfl ?_;repeat'(refine gU ?_)<;>conv=>whnf
 rfl
theorem j3G(s:List UInt8)(b:Bool)(z:Nat):Pf C1 24 [sv s,.sl b z []] [encT (.mk 3 0 s [] [])]:=by
 refine run_intro Tryz.func24 rfl rfl rfl ?_;repeat'(refine gU ?_)<;>conv=>whnf
 refine loop_over (G:=Unit) (fun _=>[]) (fun _=>_) (fun _=>True) (fun _=>0) () trivial rfl rfl ?_
 rintro _ _;repeat'(refine gU ?_)<;>conv=>whnf
 rfl
theorem j2J(t:Tm)(v:PV)(h:TmP t v)(b:Bool)(z:Nat):Pf C1 23 [v,.sl b z []] [encT t]:=by
 have hf:=j3V t v h;obtain⟨k2,n2,s2,b2,z2,x2,c2,y2,ys2,he⟩:=j04 t;obtain⟨k0,n0,s0,ls0,ts0,b0,z0,xs,c,y,ys,rfl,rfl,hz,hxs,hlen,hbd,hy,hys,hlen2,hbd2,hsl⟩:=h.open;rw[he] at hf⊢;refine run_intro Tryz.func23 rfl rfl rfl ?_;repeat'(first|refine gU ?_|refine gX hf ?_)<;>conv=>whnf
 refine loop_over (G:=Unit) (fun _=>[]) (fun _=>_) (fun _=>True) (fun _=>0) () trivial rfl rfl ?_
 rintro _ _;repeat'(refine gU ?_)<;>conv=>whnf
 rfl
theorem j1Q(k i d:Int)(hd:d≤4611686018427387904)(hd0:0≤d)(hk:1≤k)(hi:0≤i):Pf C1 300 [iv k,iv i,iv d] [iv (j08 (j06 k) i d)]:=by
 refine run_intro Tryz.func300 rfl rfl rfl ?_;repeat'(first|refine gU ?_|apply gE<;>intro h)<;>conv=>whnf
 all_goals simp_all[j08,j06]
 all_goals omega
theorem jdw(l:Lv)(q:Int)(h:0≤q):1≤lnF l q∧lnF l q≤q+1:=by
 have:=jas l q h;have:=j4i l;omega
theorem j4c(q:Int)(h:0≤q):∀(ls:List Lv) (acc:Int),acc≤lnFs ls acc q
 |[],acc=>by simp[lnFs]
 |l::r,acc=>by
  rw[lnFs];split
  ·have:=j4c q h r (acc+lnF l q);have:=jdw l q h;omega
  ·omega
mutual
theorem jcX:∀(t:Tm) (q:Int),0≤q→1≤useN t q∧useN t q≤q+1
 | .mk _ _ s ls ts,q,h=>by
  rw[useN];have:=j8p ts (lnFs ls (1+((s.length/16:Nat):Int)) q) q h;have:=j4c q h ls (1+((s.length/16:Nat):Int));omega
theorem j8p:∀(ts:List Tm) (acc q:Int),0≤q→acc≤jaW ts acc q
 |[],acc,q,h=>by simp[jaW]
 |t::r,acc,q,h=>by
  rw[jaW];split
  ·have:=j8p r (acc+useN t q) q h;have:=jcX t q h;omega
  ·omega
end
mutual
theorem jaL:∀(t:Tm) (q:Int),0≤q→1≤refN t q∧refN t q≤q+1
 | .mk _ _ s ls ts,q,h=>by
  rw[refN];have:=j3E ts (lnFs ls 1 q) q h;have:=j4c q h ls 1;omega
theorem j3E:∀(ts:List Tm) (acc q:Int),0≤q→acc≤j5H ts acc q
 |[],acc,q,h=>by simp[j5H]
 |t::r,acc,q,h=>by
  rw[j5H];split
  ·have:=j3E r (acc+refN t q) q h;have:=jaL t q h;omega
  ·omega
end
open Go Go.Am Go.Gw
def jf8(op:BinOp)(a b:Int)(K:PV→Prop):Prop:=match op with
 | .lss=>K (bv (decide (a<b)))
 | .gtr=>K (bv (decide (b<a)))
 | .leq=>K (bv (decide (a≤b)))
 | .geq=>K (bv (decide (b≤a)))
 | .eql=>K (bv (a == b))
 |_=>False
def letC(c:UInt8):Bool:=decide (97≤c.toNat∧c.toNat≤122∨c.toNat=95)
def digC(c:UInt8):Bool:=decide (48≤c.toNat∧c.toNat≤57)
def rnF:List UInt8→Bool→Bool
 |[],first=>!first
 |c::r,first=>if c.toNat=46 then(if first then false else rnF r true) else if(letC c||(digC c && !first))=true then rnF r false else false
mutual
def sizT:Tm→Nat
 | .mk _ _ _ ls ts=>1+j0c ls+j0j ts
def j0j:List Tm→Nat
 |[]=>0
 |t::r=>sizT t+j0j r
end
theorem j4d(q:Int)(h:0≤q):∀(ls:List Lv) (acc:Int),0≤acc→(acc+j0c ls≤q→lnFs ls acc q=acc+j0c ls)∧(q<acc+j0c ls→q<lnFs ls acc q)
 |[],acc,h0=>by simp[lnFs,j0c]
 |l::r,acc,h0=>by
  have h1:=jas l q h;have h2:=j4i l;rw[lnFs,j0c]
  by_cases hq:acc≤q
  ·rw[if_pos hq];have ih:=j4d q h r (acc+lnF l q) (by omega)
   constructor
   ·intro h3;rw[ih.1 (by omega)]
    omega
   ·intro h3
    by_cases h4:(j0Z l:Int)≤q+1
    ·exact ih.2 (by omega)
    ·have:=j4c q h r (acc+lnF l q);omega
  ·rw[if_neg hq];omega
mutual
theorem jcR:∀(t:Tm) (q:Int),0≤q→refN t q=min (sizT t:Int) (q+1)
 | .mk _ _ s ls ts,q,h=>by
  rw[refN,sizT];have h1:=j4d q h ls 1 (by omega)
  have h2:=j4c q h ls 1
  by_cases h3:1+(j0c ls:Int)≤q
  ·have h4:=j8l ts (lnFs ls 1 q) q h (by omega)
   rw[h1.1 h3] at h4 ⊢
   by_cases h5:1+(j0c ls:Int)+j0j ts≤q
   ·rw[h4.1 h5];omega
   ·have:=h4.2 (by omega);omega
  ·have h4:=h1.2 (by omega)
   have:=j3E ts (lnFs ls 1 q) q h;omega
theorem j8l:∀(ts:List Tm) (acc q:Int),0≤q→0≤acc→(acc+j0j ts≤q→j5H ts acc q=acc+j0j ts)∧(q<acc+j0j ts→q<j5H ts acc q)
 |[],acc,q,h,h0=>by simp[j5H,j0j]
 |t::r,acc,q,h,h0=>by
  have h1:=jcR t q h;have h2:1≤refN t q:=(jaL t q h).1;rw[j5H,j0j]
  by_cases hq:acc≤q
  ·rw[if_pos hq];have ih:=j8l r (acc+refN t q) q h (by omega)
   constructor
   ·intro h3;rw[ih.1 (by omega)]
    omega
   ·intro h3
    by_cases h4:(sizT t:Int)≤q+1
    ·exact ih.2 (by omega)
    ·have:=j3E r (acc+refN t q) q h;omega
  ·rw[if_neg hq];omega
end
mutual
theorem j9L:∀(t:Tm) (left:Int),0≤left→((sizT t:Int)≤left→cntT t left=left-sizT t)∧(left<(sizT t:Int)→cntT t left = -1)
 | .mk _ _ s ls ts,left,h=>by
  rw[cntT,sizT];have h1:=j3l ls (left-1) (by omega)
  have hg:=j1F ls (left-1) (by omega)
  by_cases h3:(j0c ls:Int)≤left-1
  ·rw[h1.1 h3];have h4:=j7G ts (left-1-j0c ls) (by omega)
   constructor
   ·intro h5;rw[h4.1 (by omega)]
    omega
   ·intro h5
    by_cases hts:ts=[]
    ·subst hts;simp only[j0j] at h5;omega
    ·exact h4.2 (by omega) hts
  ·by_cases h6:left=0
   ·subst h6;rw[j1q _ _ (by omega),j1E _ _ (by omega)]
    constructor
    ·intro;omega
    ·intro;rfl
   ·have h2:ls≠[]:=by
     rintro rfl;simp only[j0c] at h3;omega
    rw[h1.2 (by omega) h2,j1E _ _ (by omega)]
    constructor
    ·intro;omega
    ·intro;rfl
theorem j7G:∀(ts:List Tm) (left:Int),-1≤left→((j0j ts:Int)≤left→j1S ts left=left-j0j ts)∧(left<(j0j ts:Int)→ts≠[]→j1S ts left = -1)
 |[],left,h=>by simp[j1S,j0j]
 |t::r,left,h=>by
  rw[j1S,j0j]
  by_cases h0:left<0
  ·rw[if_pos h0];have:1≤sizT t:=by cases t;simp[sizT];omega
   constructor
   ·intro;omega
   ·intro;omega
  ·rw[if_neg h0];have h1:=j9L t left (by omega)
   by_cases h2:(sizT t:Int)≤left
   ·rw[h1.1 h2];have ih:=j7G r (left-sizT t) (by omega)
    constructor
    ·intro h3;rw[ih.1 (by omega)]
     omega
    ·intro h3 _
     by_cases hr:r=[]
     ·subst hr;simp only[j0j] at h3;omega
     ·exact ih.2 (by omega) hr
   ·rw[h1.2 (by omega),j1E _ _ (by omega)]
    constructor
    ·intro;omega
    ·intro;simp
end
theorem j1L(t:Tm):j0r t=min (sizT t:Int) 2001:=by
 have:=j9L t 2000 (by omega)
 unfold j0r
 by_cases h:(sizT t:Int)≤2000
 ·rw[this.1 h];omega
 ·rw[this.2 (by omega)];omega
def anyT(t:Tm):Bool:=j1c t 4 1125899906842624
end Go.Proofs.YtnfbeplfnblgjaaGreatDoor

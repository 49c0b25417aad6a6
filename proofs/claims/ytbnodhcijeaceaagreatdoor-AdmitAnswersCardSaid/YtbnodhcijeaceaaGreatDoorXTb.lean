/- What package name finds: a part of a name. -/
import Derived.Test.YtbnodhcijeaceaaGreatDoorXPm
set_option linter.all false
set_option maxHeartbeats 2000000
set_option maxRecDepth 100000
namespace Go.Proofs.YtbnodhcijeaceaaGreatDoor
open Go Go.Am Go.Gw
def jl5(s:ByteArray)(i:Nat)(h:(s.get! i).toNat<128):Utf8.decode s i=((s.get! i).toNat,1):=by
 unfold Utf8.decode;simp only[DB];rw[if_pos h]
def decode_high(s:ByteArray)(i:Nat)(h:¬(s.get! i).toNat<128):128≤(Utf8.decode s i).1:=by
 unfold Utf8.decode;simp only[DB];rw[if_neg h];repeat' split
 all_goals simp_all[Utf8.runeError]
 all_goals omega
def get_at(s:List UInt8)(i:Nat)(h:i<s.length):(⟨s.toArray⟩:ByteArray).get! i=s[i]:=by
 simp[ByteArray.get!,h]
def jgT(c:UInt8):j5m c.toNat=j6m c:=by
 rw[CL];simp[j5m,j6m,UInt8.le_iff_toNat_le,←UInt8.toNat_inj];omega
def jjN(s:List UInt8):∀(f pos:Nat),s.length≤pos+f→(Lib.idxFuncFrom (fun c=>!j5m c) true ⟨s.toArray⟩ f pos<0↔(s.drop pos).all j6m=true)
 |0,pos,h=>by
  rw[AV (by omega)]
  simp[Lib.idxFuncFrom]
 |f+1,pos,h=>by
  by_cases hp:pos<s.length
  ·have hsz:pos<(⟨s.toArray⟩:ByteArray).size:=by rw[j2A];exact hp
   have hg:=get_at s pos hp;rw[Lib.idxFuncFrom,if_pos hsz,DN hp,BH]
   by_cases hl:((⟨s.toArray⟩:ByteArray).get! pos).toNat<128
   ·rw[jl5 _ _ hl,hg];simp only[jgT];have ih:=jjN s f (pos+1) (by omega)
    cases hc:j6m s[pos]
    ·simp
    ·simp[ih]
   ·have hh:=decode_high _ _ hl;have h1:j5m (Utf8.decode ⟨s.toArray⟩ pos).1=false:=by
     simp only[j5m,decide_eq_false_iff_not];omega
    have h2:j6m s[pos]=false:=by
     rw[←jgT];rw[hg] at hl;simp only[j5m,decide_eq_false_iff_not];omega
    rw[h1,h2];simp
  ·rw[AV (by omega),Lib.idxFuncFrom_end _ _ _ _ _ (by rw[j2A];exact hp)]
   simp
def jod(s:List UInt8):decide (Lib.idxFunc (fun c=>!j5m c) true ⟨s.toArray⟩<0)=s.all j6m:=by
 have:=jjN s (⟨s.toArray⟩:ByteArray).size 0 (by rw[j2A];omega)
 rw[CL,decide_eq_true_eq];simpa[Lib.idxFunc] using this
def jeD(s:List UInt8):Pf C1 245 [sv s,.fn 243 [] []] [iv (Lib.idxFunc (fun c=>!j5m c) true ⟨s.toArray⟩)]:=jsg rfl rfl
variable{a b:Int}{ls:List Lv}{x y:Operand}{P:Program}{T:TypeId}
def idx0{ρ:AEnv}{c:UInt8}{r:List UInt8}(hx:aval ρ x=some (sv (c::r)))(hy:aval ρ y=some (iv 0)):ja8 C1.P ρ 9 x y=some (.sc (.int .u8 c.toNat)):=by
 simp only[ja8,hx,hy];rfl
def jsp:j0i P .lss T x y (.sc (.int .u8 a)) (.sc (.int .u8 b))=some (bv (decide (a<b))):=by
 simp only[j0i,j5r,eqGuard,binOp,Op.intCmp];rfl
def jso:j0i P .gtr T x y (.sc (.int .u8 a)) (.sc (.int .u8 b))=some (bv (decide (b<a))):=by
 simp only[j0i,j5r,eqGuard,binOp,Op.intCmp];rfl
def u8Op(op:BinOp)(a b:Int)(K:PV→Prop):Prop:=match op with
 | .lss=>K (bv (decide (a<b)))
 | .gtr=>K (bv (decide (b<a)))
 |_=>False
def jtJ{op:BinOp}{K:PV→Prop}(h:u8Op op a b K):VRes (j0i P op T x y (.sc (.int .u8 a)) (.sc (.int .u8 b))) K:=by
 cases op with
 |lss=>exact⟨_,jsp,h⟩
 |gtr=>exact⟨_,jso,h⟩
 |_=>exact h.elim
def jr7(s:List UInt8):Pf C1 185 [sv s] [bv (j2R s)]:=by
 have hi:=jeD s;have hp:=jod s;cases s with
 |nil=>
  refine gR Tryz.func185 ?_;repeat'(first|refine gU ?_|refine j1w ?_)<;>conv=>whnf
  all_goals first|rfl|(rename_i h;simp at h)|simp_all
 |cons c r=>
  refine gR Tryz.func185 ?_;repeat'(first|refine gU ?_|apply gE<;>intro h|refine j1w ?_|refine VRes.mk _ (idx0 rfl rfl) ?_|refine jtJ ?_|refine gX hi ?_)<;>conv=>whnf
  all_goals
   have hd:(48≤c&&c≤57)=decide (48≤c.toNat∧c.toNat≤57):=by
    rw[CL];simp[UInt8.le_iff_toNat_le]
  ·rw[hp,j2R,hd,decide_eq_false (by omega)]
   rfl
  ·rw[hp,j2R,hd,decide_eq_false (by omega)]
   rfl
  ·rw[j2R,hd,decide_eq_true (by omega)]
   rfl
open Go Go.Am Go.Gw
def jhe(s:List UInt8):Finds C1 242 [sv s,sv [46],iv 0] [] fun r st=>r=.ret [.fn 281 [] [.bp 1 0,.bp 0 0,.bp 2 0]]∧st=[.box 9 [sv s],.box 9 [sv [46]],.box 3 [iv 0]]:=by
 refine gR Tryz.func242 ?_;all_goals try conv=>whnf
 exact VRet.mk [.fn 281 [] [.bp 1 0,.bp 0 0,.bp 2 0]] [.box 9 [sv s],.box 9 [sv [46]],.box 3 [iv 0]] (by kernel_rfl) ⟨rfl,rfl⟩
def jfE(s:List UInt8):Finds C1 184 [sv s,sv [46]] [] fun r st=>r=.ret [.fn 281 [] [.bp 1 0,.bp 0 0,.bp 2 0]]∧st=[.box 9 [sv s],.box 9 [sv [46]],.box 3 [iv 0]]:=by
 refine gR Tryz.func184 ?_;all_goals try conv=>whnf
 refine j1d rfl (Finds.mono (jhe s) ?_);rintro _ _ ⟨rfl,rfl⟩;refine⟨rfl,j1z rfl ?_⟩;all_goals try conv=>whnf
 exact VRet.mk [.fn 281 [] [.bp 1 0,.bp 0 0,.bp 2 0]] [.box 9 [sv s],.box 9 [sv [46]],.box 3 [iv 0]] (by kernel_rfl) ⟨rfl,rfl⟩
def jog(g:List UInt8):Pf C1 283 [sv g,sv [46]] [iv (Lib.indexByte g 46)]:=jsg rfl rfl
open Go Go.Am Go.Gw
def j3z{α β:Type}{f:α→Sem β}:∀{s:Sem α}{a:α},qrun P s=some a→qrun P (s.bind f)=qrun P (f a):=by
 intro s
 induction s with
 |pure x=>intro a h;simp only[qrun,AD] at h;subst h;rfl
 |program k ih=>intro a h;exact ih P h
 |mark m k ih=>intro a h;exact ih h
 |_=>intro a h;simp[qrun] at h
def j1q{d:TypeDesc}(h:P.underlying T=some d):qrun P (underlying T)=some d:=by
 unfold underlying;simp[bind,Sem.bind,qrun,program,h];rfl
def jrs(g:List UInt8)(i:Nat)(h:i≤g.length):j9a C1.P 9 (str g) none (some (iv i)) none=some (sv (g.take i)):=by
 have h0:(0:Int)≤(i:Int)∧(i:Int)≤(g.length:Int):=by omega
 have hT:C1.P.underlying 9=some .string:=by kernel_rfl
 have e:qrun C1.P (Instr.sliceAt 9 (str g) none (some (.int .i64 i)) none)=some (str (g.take i)):=by
  unfold Instr.sliceAt;simp only[bind];rw[j3z (j1q hT)];simp[Instr.slice,Instr.sliceBounds,Instr.sliceBound,asIntOf,j2A,h0,j7m,qrun,bind,Sem.bind];rw[j3z (j1q hT)];simp[pure,Sem.bind,j2A,h0,j7m,qrun,h]
 show(qrun C1.P (Instr.sliceAt 9 (str g) none (some (.int .i64 i)) none)).bind j6o=_
 rw[e];rfl
def jrt(g:List UInt8)(i:Nat)(h:i≤g.length):j9a C1.P 9 (str g) (some (iv i)) none none=some (sv (g.drop i)):=by
 have h0:(0:Int)≤(i:Int)∧(i:Int)≤(g.length:Int):=by omega
 have hT:C1.P.underlying 9=some .string:=by kernel_rfl
 have e:qrun C1.P (Instr.sliceAt 9 (str g) (some (.int .i64 i)) none none)=some (str (g.drop i)):=by
  unfold Instr.sliceAt;simp only[bind];rw[j3z (j1q hT)];simp[Instr.slice,Instr.sliceBounds,Instr.sliceBound,asIntOf,j2A,h0,j7m,qrun,bind,Sem.bind];rw[j3z (j1q hT)];simp[pure,Sem.bind,j2A,h0,j7m,qrun,h];try exact BR (by simp)
 show(qrun C1.P (Instr.sliceAt 9 (str g) (some (.int .i64 i)) none none)).bind j6o=_
 rw[e];rfl
open Go Go.Am Go.Gw
def jfo:∀(g acc:List UInt8),(Lib.indexByte g 46 = -1∧j1v acc g=[acc.reverse++g])∨(∃i:Nat,Lib.indexByte g 46=i∧i<g.length∧j1v acc g=(acc.reverse++g.take i)::j1v [] (g.drop (i+1)))
 |[],acc=>.inl ⟨rfl,by simp[j1v]⟩
 |c::r,acc=>by
  by_cases hc:(c == 46)=true
  ·refine .inr ⟨0,?_,by simp,?_⟩
   ·rw[Lib.indexByte,if_pos hc];try rfl
   ·rw[j1v,if_pos hc];simp
  ·rcases jfo r (c::acc) with⟨h1,h2⟩|⟨i,h1,h2,h3⟩
   ·refine .inl ⟨?_,?_⟩
    ·rw[Lib.indexByte,if_neg hc,h1];try rfl
    ·rw[j1v,if_neg hc,h2];simp
   ·refine .inr ⟨i+1,?_,by simp;omega,?_⟩
    ·rw[Lib.indexByte,if_neg hc,h1,if_neg (by first|omega|simp)];try rfl
    ·rw[j1v,if_neg hc,h3];simp
def jke(g:List UInt8):(Lib.indexByte g 46 = -1∧j4E g=[g])∨(∃i:Nat,Lib.indexByte g 46=i∧i<g.length∧j4E g=g.take i::j4E (g.drop (i+1))):=by
 simpa[j4E] using jfo g []
def lpS(s:List UInt8)(v5 v6:Value)(a b:Code)(x:LpS):SO:=.lp [(8,.fn 281 [] [.bp 1 0,.bp 2 0,.bp 3 0]),(7,sv s),(6,.sc v6),(5,.sc v5),(4,sv s),(2,.bp 4 0),(0,sv s)] [9] a b x
def jrQ(s:List UInt8)(v5 v6:Value)(a b:Code):Prop:=∀(g p:List UInt8),FindsY C1 [.yl 0,sv p] [lpS s v5 v6 a b .ready,.box 9 [sv [46]],.box 9 [sv g],.box 3 [iv 0],.box 4 [bv false]] fun r st=>
 r=.ret [bv (j2R p)]∧st=[lpS s v5 v6 a b (if j2R p=true then .ready else .done none),.box 9 [sv [46]],.box 9 [sv g],.box 3 [iv 0],.box 4 [bv false]]
def jdV{s:List UInt8}{v5 v6:Value}{a b:Code}(hY:jrQ s v5 v6 a b)(g p:List UInt8){K:AR→Prop}
  (k:K (.val (bv (j2R p)) [lpS s v5 v6 a b (if j2R p=true then .ready else .done none),.box 9 [sv [46]],.box 9 [sv g],.box 3 [iv 0],.box 4 [bv false]])) :
  VYield C1 0 [sv p] [lpS s v5 v6 a b .ready,.box 9 [sv [46]],.box 9 [sv g],.box 3 [iv 0],.box 4 [bv false]] K:=by
 refine jsq rfl rfl rfl rfl rfl (j1W (hY g p) ?_);rintro _ _ ⟨rfl,rfl⟩;exact j1z rfl k
def jqE(s:List UInt8)(hs:s.length≤140737488355328)(v5 v6:Value)(a b:Code)(hY:jrQ s v5 v6 a b):Finds C1 281 [.yl 0,.bp 1 0,.bp 2 0,.bp 3 0] [lpS s v5 v6 a b .ready,.box 9 [sv [46]],.box 9 [sv s],.box 3 [iv 0],.box 4 [bv false]] fun r st=>
  r=.ret []∧∃g,st=[lpS s v5 v6 a b (if(j4E s).all j2R=true then .ready else .done none),.box 9 [sv [46]],.box 9 [sv g],.box 3 [iv 0],.box 4 [bv false]]:=by
 refine gR Tryz.func281 ?_;repeat'(refine gU ?_)<;>conv=>whnf
 refine j04 (G:=List UInt8) (fun _=>[]) (fun g=>[_,.box 9 [sv [46]],.box 9 [sv g],.box 3 [iv 0],.box 4 [bv false]]) (fun g=>g.length≤s.length∧(j4E g).all j2R=(j4E s).all j2R) (fun g=>g.length) s ⟨by omega,rfl⟩ rfl rfl ?_
 rintro g ⟨hg,hA⟩;have qA:=jog g;repeat'(first|apply gE<;>intro h|refine gX qA ?_)<;>conv=>whnf
 ·refine jdV hY g g ?_;repeat'(refine gU ?_)<;>conv=>whnf
  have e:j2R g=(j4E s).all j2R:=by
   rcases jke g with⟨h1,h2⟩|⟨i,h1,_⟩
   ·rw[←hA,h2];simp
   ·omega
  refine⟨rfl,g,?_⟩;rw[←e];rfl
 ·obtain⟨i,h1,h2,h3⟩:∃i:Nat,Lib.indexByte g 46=i∧i<g.length∧j4E g=g.take i::j4E (g.drop (i+1)):=(jke g).resolve_left (fun e=>by omega)
  rw[h1] at qA;rw[h1];have wA:=jrs g i (by omega)
  have gA:=jrt g (i+1) (by omega)
  refine VArith.fits (by unfold i64;omega) ?_
  rw[Int.add_zero];repeat'(first|refine VRes.mk _ wA ?_)<;>conv=>whnf
  refine jdV hY g (g.take i) ?_;repeat'(first|refine gU ?_|apply gM<;>intro h)<;>conv=>whnf
  ·refine VArith.fits (by
    show i64 ((i:Int)+((1:Nat):Int))
    unfold i64;omega) ?_
   repeat'(first|refine gU ?_|refine VRes.mk _ gA ?_)<;>conv=>whnf
   refine VAgain.mk _ rfl _ (j1a rfl) ⟨g.drop (i+1),⟨by simp;omega,?_⟩,by simp;omega,by rw[if_pos h];rfl⟩
   rw[←hA,h3,BH,h];rfl
  ·have e:(j4E s).all j2R=false:=by
    rw[←hA,h3,BH,h];rfl
   refine⟨rfl,g,?_⟩;rw[e,if_neg (by rw[h];exact HB)]
   rfl
open Go Go.Am Go.Gw
def j2g(s:List UInt8)(hs:s.length≤140737488355328):Pf C1 121 [sv s] [bv (j2f s)]:=by
 refine gR Tryz.func121 ?_;repeat'(first|refine gU ?_|apply gE<;>intro h)<;>conv=>whnf
 ·have:¬s.length≤40:=by simp[j2A] at *;omega
  rw[j2f,decide_eq_false this];rfl
 ·have wA:s.length≤40:=by simp[j2A] at *;omega
  refine j1d rfl (Finds.mono (jfE s) ?_);rintro _ _ ⟨rfl,rfl⟩;refine⟨rfl,j1z rfl ?_⟩;all_goals try conv=>whnf
  refine j0K rfl rfl rfl rfl rfl rfl (Finds.mono (jqE s hs _ _ _ _ ?_) ?_)
  ·intro g p;have gA:=jr7 p;refine j2d rfl rfl ?_;repeat'(first|refine gU ?_|apply gM<;>intro h|refine gX gA ?_)<;>conv=>whnf
   ·exact⟨by rw[h],by rw[if_pos h];rfl⟩
   ·exact⟨by rw[h],by rw[if_neg (by rw[h];exact HB)];rfl⟩
  ·rintro _ _ ⟨rfl,g,rfl⟩;refine j1z rfl ?_
   by_cases hA:(j4E s).all j2R=true
   ·have qA:j2f s=true:=by rw[j2f,decide_eq_true wA,hA];rfl
    rw[if_pos hA];repeat'(refine gU ?_)<;>conv=>whnf
    rw[qA]
   ·have qA:j2f s=false:=by rw[j2f,CM.2 hA,FC]
    rw[if_neg hA];repeat'(refine gU ?_)<;>conv=>whnf
    rw[qA];rfl
def j9m(s:List UInt8):Prop:=s.length≤140737488355328
def jqT:NmOk j9m:=fun s hs=>j2g s hs
open Go Go.Am Go.Gw
mutual
def encL:Lv→PV
 | .mk k n ls=>.ag [iv k,iv n,match ls with
  |[]=>.sl true 0 []
  |l::r=>.sl false 3 (jgc (l::r))]
def jgc:List Lv→List PV
 |[]=>[]
 |l::r=>encL l::jgc r
end
def j7F(ls:List Lv):PV:=match ls with
 |[]=>.sl true 0 []
 |l::r=>.sl false 3 (jgc (l::r))
def jjx:∀ls:List Lv,jgc ls=ls.map encL
 |[]=>rfl
 |l::r=>by rw[jgc,jjx r];rfl
mutual
theorem jeo:∀(l:Lv) (v:PV),LvP l v→LvP l (encL l)
 | .mk k n ls,v,h=>by
  simp only[LvP] at h;obtain⟨b,z,xs,rfl,hz,hA,hb⟩:=h;have:=jep ls xs hA;cases ls with
  |nil=>simp only[encL,LvP,LvsP];exact⟨_,_,_,rfl,.inr rfl,rfl,hb⟩
  |cons l r=>simp only[encL,LvP];exact⟨_,_,_,rfl,.inl rfl,this,hb⟩
theorem jep:∀(ls:List Lv) (xs:List PV),LvsP ls xs→LvsP ls (jgc ls)
 |[],_,_=>by simp only[jgc,LvsP]
 |l::r,xs,h=>by
  simp only[LvsP] at h;obtain⟨v,xs',rfl,h1,h2⟩:=h;simp only[jgc,LvsP];exact⟨_,_,rfl,jeo l v h1,jep r xs' h2⟩
end
def jgb(l:Lv):∀n,pur (n+2) (encL l)=true:=fun n=>by
 obtain⟨k,nn,ls⟩:=l;cases ls<;>rfl
def j0V(ls:List Lv)(n:Nat):(ls.map encL).all (pur (n+2))=true:=by
 rw[AF]
 intro x hx;obtain⟨l,_,rfl⟩:=DC.1 hx;exact jgb l n
abbrev zLv:List PV:=[iv 0,iv 0,.sl true 0 []]
abbrev zTm:List PV:=[iv 0,iv 0,sv [],.sl true 0 [],.sl true 0 []]
def jbn(k n:Int)(ls:List Lv):encL (.mk k n ls)=.ag [iv k,iv n,j7F ls]:=by cases ls<;>simp[encL,j7F]
def j0t(l:Lv):∃k n b z xs,encL l=.ag [iv k,iv n,.sl b z xs]:=by
 obtain⟨k,n,ls⟩:=l;rw[jbn];cases ls with
 |nil=>exact⟨_,_,_,_,_,rfl⟩
 |cons l r=>exact⟨_,_,_,_,_,rfl⟩
def j4T(h:0<ls.length):j7F ls=.sl false 3 (ls.map encL):=by
 cases ls with
 |nil=>simp at h
 |cons l r=>simp only[j7F,jjx]
def joI(k:Int)(ls:List Lv)(ih:∀l∈ls,∀v,LvP l v→Pf C1 161 [v] [encL l])(b:Bool)(z:Nat)(xs:List PV)(hz:z=3∨xs=[])(hC:LvsP ls xs)(wC:ls.length≤3518437208780):
  Pf C1 162 [iv k,.sl b z xs] [encL (.mk k 0 ls)]:=by
 have hlen:=hC.len;refine gR Tryz.func162 ?_;repeat'(refine gU ?_)<;>conv=>whnf
 refine j04 (G:=Nat) (fun i=>[(12,iv i)]) (fun i=>match i with
   |0=>[.box 86 zLv,.box 86 [iv k,iv 0,.sl true 0 []]]
   |n+1=>[.box 86 zLv,.box 86 [iv k,iv 0,.ms 3 (n+1)],.dead,.row false 86 3 ((ls.take (n+1)).map encL)]) (fun i=>i≤ls.length) (fun i=>ls.length-i) 0 (by omega) rfl rfl ?_
 intro i hi;have hA:∀(hB:i<ls.length),∃lc,ls[i]?=some lc∧∃v,xs[i]?=some v∧LvP lc v∧Pf C1 161 [v] [encL lc]:=fun hB=>by
  obtain⟨lc,qA⟩:∃lc,ls[i]?=some lc:=⟨_,AA hB⟩;obtain⟨v,hv,hl⟩:=hC.at qA;exact⟨lc,qA,v,hv,hl,ih _ (AE qA) _ hl⟩
 cases i with
 |zero=>
  repeat'(first|refine gU ?_|apply gE<;>intro h)<;>conv=>whnf
  ·obtain⟨lc,qA,v,hv,hl,gA⟩:=hA (by omega)
   have e:(ls.take (0+1)).map encL=[encL lc]:=by rw[take_snoc' qA];rfl
   obtain⟨k2,n2,b2,z2,x2,he⟩:=j0t lc;rw[he] at gA e;obtain⟨k1,n1,l1,b1,z1,x1,rfl,rfl,gC,qB,wA,wB⟩:=hl.open;refine VIdx.mk _ hv (VOk.mk (j0z rfl hz) ?_);repeat'(first|refine gU ?_|refine j01 gA fun _=>?_|apply gK)<;>conv=>whnf
   exact VAgain.mk _ rfl _ (j0B (.cons (j02 rfl rfl) (.cons (j02 rfl rfl) (.cons (j02 rfl rfl) (.cons (j05 rfl) .nil)))) (.cons (j02 rfl rfl) (.cons (j02 rfl rfl) (.cons j0l (.cons (j05 rfl) .nil)))) rfl rfl rfl rfl rfl) ⟨1,by omega,by omega,congrArg (fun t=>(⟨_,[.box _ zLv,.box _ [iv k,iv 0,.ms 3 1],.dead,.row false _ 3 t]⟩:AS)) e.symm⟩
  ·obtain rfl:ls=[]:=AJ (by omega)
   rfl
 |succ i=>
  have qC:((ls.take (i+1)).map encL).length=i+1:=by simp;omega
  repeat'(first|refine gU ?_|apply gE<;>intro h)<;>conv=>whnf
  ·obtain⟨lc,qA,v,hv,hl,gA⟩:=hA (by omega)
   have e:(ls.take (i+1+1)).map encL=(ls.take (i+1)).map encL++[encL lc]:=by rw[take_snoc' qA];simp
   have gB:((ls.take (i+1)).map encL++[encL lc]).all (pur 8)=true:=e▸j0V _ 6;obtain⟨k2,n2,b2,z2,x2,he⟩:=j0t lc;rw[he] at gA e gB;obtain⟨k1,n1,l1,b1,z1,x1,rfl,rfl,gC,qB,wA,wB⟩:=hl.open;refine VIdx.mk _ hv (VOk.mk (j0z rfl hz) ?_);repeat'(first|refine gU ?_|refine j01 gA fun _=>?_|refine VOk.mk (j0N (w:=40) (r:=140737488355328) qC rfl rfl rfl rfl (by simp only[AC,AG];omega) (by simp only[AC,AG];omega)) ?_|apply gK)<;>conv=>whnf
   exact VAgain.mk _ rfl _ (j0B (.cons (j02 rfl rfl) (.cons (j02 rfl rfl) (.cons j0l (.cons (j05 gB) (.cons (j02 rfl rfl) .nil))))) (.cons (j02 rfl rfl) (.cons (j02 rfl rfl) (.cons j0l (.cons (j05 gB) .nil)))) rfl rfl rfl rfl rfl) ⟨i+1+1,by omega,by omega,congrArg (fun t=>(⟨_,[.box _ zLv,.box _ [iv k,iv 0,.ms 3 (i+1+1)],.dead,.row false _ 3 t]⟩:AS)) e.symm⟩
  ·have hB:i+1=ls.length:=by omega
   have e:(ls.take (i+1)).map encL=ls.map encL:=by rw[hB,BT]
   refine j0m rfl (j03 (j2V (j03 rfl (j03 rfl (j03 (j0p rfl qC.symm (j0V _ 4)) j0h)))) j0h) rfl ?_;rw[jbn,j4T (by omega),←e]
def j9w(l:Lv):∀v,LvP l v→Pf C1 161 [v] [encL l]:=by
 induction l using Lv.ind with
 |_ k nn ls ih=>
 intro v h;obtain⟨_,_,_,b,z,xs,⟨rfl,rfl,rfl⟩,rfl,hz,hA,hlen,qA⟩:=h.open;have hm:=joI k ls ih b z xs hz hA qA;rw[jbn] at hm⊢;obtain⟨b2,z2,x2,he⟩:∃b z xs,j7F ls=.sl b z xs:=by cases ls<;>exact⟨_,_,_,rfl⟩
 rw[he] at hm⊢;refine gR Tryz.func161 ?_;repeat'(first|refine gU ?_|refine gX hm ?_)<;>conv=>whnf
 rfl
def jk5(k:Int)(ls:List Lv)(b:Bool)(z:Nat)(xs:List PV)(hz:z=3∨xs=[])(hA:LvsP ls xs)(qA:ls.length≤3518437208780):Pf C1 162 [iv k,.sl b z xs] [encL (.mk k 0 ls)]:=
 joI k ls (fun l _ v hv=>j9w l v hv) b z xs hz hA qA
def j8R(l:Lv)(v:PV)(h:LvP l v)(b:Bool)(z:Nat)(hz:z=3):Pf C1 97 [.sl b z [v]] [encL l]:=by
 have hc:=j9w l v h;obtain⟨k2,n2,b2,z2,x2,he⟩:=j0t l;rw[he] at hc⊢;subst hz;obtain⟨k1,n1,l1,b1,z1,x1,rfl,rfl,wA,qA,hA,gA⟩:=h.open;refine gR Tryz.func97 ?_;repeat'(first|refine gU ?_|refine gX hc ?_|refine VIdx.mk _ rfl ?_)<;>conv=>whnf
 rfl
mutual
def encT:Tm→PV
 | .mk k n s ls ts=>.ag [iv k,iv n,sv s,j7F ls,match ts with
  |[]=>.sl true 0 []
  |t::r=>.sl false 5 (jge (t::r))]
def jge:List Tm→List PV
 |[]=>[]
 |t::r=>encT t::jge r
end
def j8y(ts:List Tm):PV:=match ts with
 |[]=>.sl true 0 []
 |t::r=>.sl false 5 (jge (t::r))
def jjz:∀ts:List Tm,jge ts=ts.map encT
 |[]=>rfl
 |t::r=>by rw[jge,jjz r];rfl
def j2O(k n:Int)(s:List UInt8)(ls:List Lv)(ts:List Tm):encT (.mk k n s ls ts)=.ag [iv k,iv n,sv s,j7F ls,j8y ts]:=by cases ts<;>simp[encT,j8y]
def j1V{ts:List Tm}(h:0<ts.length):j8y ts=.sl false 5 (ts.map encT):=by
 cases ts with
 |nil=>simp at h
 |cons l r=>simp only[j8y,jjz]
def j9z(ls:List Lv):∃b z xs,j7F ls=.sl b z xs:=by cases ls<;>exact⟨_,_,_,rfl⟩
def j9A(ls:List Tm):∃b z xs,j8y ls=.sl b z xs:=by cases ls<;>exact⟨_,_,_,rfl⟩
def j06(t:Tm):∃k n s b z xs c y ys,encT t=.ag [iv k,iv n,sv s,.sl b z xs,.sl c y ys]:=by
 obtain⟨k,n,s,ls,ts⟩:=t;obtain⟨b,z,xs,h1⟩:=j9z ls;obtain⟨c,y,ys,h2⟩:=j9A ts;rw[j2O,h1,h2];exact⟨_,_,_,_,_,_,_,_,_,rfl⟩
def jnF(t:Tm)(n:Nat):pur (n+2) (encT t)=true:=by
 obtain⟨k,nn,s,b,z,xs,c,y,ys,h⟩:=j06 t;rw[h];rfl
def j0D(ts:List Tm)(n:Nat):(ts.map encT).all (pur (n+2))=true:=by
 rw[AF]
 intro x hx;obtain⟨l,_,rfl⟩:=DC.1 hx;exact jnF l n
def jjy{xs:List PV}(h:LvsP ls xs):∃b z xs',j7F ls=.sl b z xs'∧(z=3∨xs'=[])∧LvsP ls xs':=by
 cases ls with
 |nil=>exact⟨_,_,_,rfl,.inr rfl,by simp only[LvsP]⟩
 |cons l r=>exact⟨_,_,_,rfl,.inl rfl,jep _ _ h⟩
mutual
theorem jeq:∀(t:Tm) (v:PV),TmP t v→TmP t (encT t)
 | .mk k n s ls ts,v,h=>by
  simp only[TmP] at h;obtain⟨b,z,xs,c,y,ys,rfl,hz,qA,hb,hy,hA,hc,hs,hn⟩:=h;obtain⟨b1,z1,xs1,e1,e2,e3⟩:=jjy qA;have:=jjA ts ys hA;rw[j2O,e1];cases ts with
  |nil=>simp only[j8y,TmP,TmsP];exact⟨_,_,_,_,_,_,rfl,e2,e3,hb,.inr rfl,rfl,hc,hs,hn⟩
  |cons t r=>simp only[j8y,TmP];exact⟨_,_,_,_,_,_,rfl,e2,e3,hb,.inl rfl,this,hc,hs,hn⟩
theorem jjA:∀(ts:List Tm) (xs:List PV),TmsP ts xs→TmsP ts (jge ts)
 |[],_,_=>by simp only[jge,TmsP]
 |t::r,xs,h=>by
  simp only[TmsP] at h;obtain⟨v,xs',rfl,h1,h2⟩:=h;simp only[jge,TmsP];exact⟨_,_,rfl,jeq t v h1,jjA r xs' h2⟩
end
-- the second loop of term.fresh: $1: the store's things ahead,but for what is made;$2: a slice of levels that is made;$3: numbers: the row's;$4,$5,$6: what they refer to
def j3u(t:Tm):∀v,TmP t v→Pf C1 115 [v] [encT t]:=by
 induction t using Tm.ind with
 |_ k nn s ls ts ih=>
 intro v h;obtain⟨_,_,_,_,_,b,z,xs,c,y,ys,⟨rfl,rfl,rfl,rfl,rfl⟩,rfl,hz,qF,hlen,kG,hy,kF,hlen2,wF,hG⟩:=h.open;rw[j2O];refine gR Tryz.func115 ?_;repeat'(refine gU ?_)<;>conv=>whnf
 refine j04 (G:=Nat) (fun i=>[(18,iv i)]) (fun i=>match i with
   |0=>[.box 25 [iv k,iv nn,sv s,.sl b z xs,.sl c y ys],.box 25 zTm,.box 25 [iv k,iv nn,sv s,.sl true 0 [],.sl true 0 []]]
   |n+1=>[.box 25 [iv k,iv nn,sv s,.sl b z xs,.sl c y ys],.box 25 zTm,.box 25 [iv k,iv nn,sv s,.ms 4 (n+1),.sl true 0 []],.dead,.row false 86 3 ((ls.take (n+1)).map encL)]) (fun i=>i≤ls.length) (fun i=>ls.length-i) 0 (by omega) rfl rfl ?_
 intro i hi;have gB:∀(kE:i<ls.length),∃lc,ls[i]?=some lc∧∃v,xs[i]?=some v∧LvP lc v∧Pf C1 97 [.sl true 3 [v]] [encL lc]:=fun kE=>by
  obtain⟨lc,qA⟩:∃lc,ls[i]?=some lc:=⟨_,AA kE⟩;obtain⟨v,hv,hl⟩:=qF.at qA;exact⟨lc,qA,v,hv,hl,j8R lc v hl true 3 rfl⟩
 cases i with
 |zero=>
  repeat'(first|refine gU ?_|apply gE<;>intro h)<;>conv=>whnf
  ·obtain⟨lc,qA,v,hv,hl,gA⟩:=gB (by omega)
   have e:(ls.take (0+1)).map encL=[encL lc]:=by rw[take_snoc' qA];rfl
   obtain⟨k2,n2,b2,z2,x2,he⟩:=j0t lc;rw[he] at gA e;obtain⟨k1,n1,l1,b1,z1,x1,rfl,rfl,qD,qB,wA,hC⟩:=hl.open;refine VIdx.mk _ hv (VOk.mk (j0z rfl hz) ?_);repeat'(first|refine gU ?_|refine j01 gA fun _=>?_|apply gK)<;>conv=>whnf
   exact VAgain.mk _ rfl _ (j0B (.cons (j02 rfl rfl) (.cons (j02 rfl rfl) (.cons (j02 rfl rfl) (.cons (j02 rfl rfl) (.cons (j05 rfl) .nil))))) (.cons (j02 rfl rfl) (.cons (j02 rfl rfl) (.cons (j02 rfl rfl) (.cons j0l (.cons (j05 rfl) .nil))))) rfl rfl rfl rfl rfl) ⟨1,by omega,by omega,congrArg (fun t=>(⟨_,[.box _ [iv k,iv nn,sv s,.sl b z xs,.sl c y ys],.box _ zTm,.box _ [iv k,iv nn,sv s,.ms 4 1,.sl true 0 []],.dead,.row false _ 3 t]⟩:AS)) e.symm⟩
  ·obtain rfl:ls=[]:=AJ (by omega)
   refine j04 (G:=Nat) (fun j=>[(34,iv j)]) (fun j=>match j with
     |0=>[.box 25 [iv k,iv nn,sv s,.sl b z xs,.sl c y ys],.box 25 zTm,.box 25 [iv k,iv nn,sv s,.sl true 0 [],.sl true 0 []]]
     |n+1=>[.box 25 [iv k,iv nn,sv s,.sl b z xs,.sl c y ys],.box 25 zTm,.box 25 [iv k,iv nn,sv s,.sl true 0 [],.ms 4 (n+1)],.dead,.row false 25 5 ((ts.take (n+1)).map encT)]) (fun j=>j≤ts.length) (fun j=>ts.length-j) 0 (by omega) rfl rfl ?_
   intro j hj;have hA:∀(qC:j<ts.length),∃lc,ts[j]?=some lc∧∃v,ys[j]?=some v∧TmP lc v∧Pf C1 115 [v] [encT lc]:=fun qC=>by
    obtain⟨lc,qA⟩:∃lc,ts[j]?=some lc:=⟨_,AA qC⟩;obtain⟨v,hv,hl⟩:=kF.at qA;exact⟨lc,qA,v,hv,hl,ih _ (AE qA) _ hl⟩
   cases j with
   |zero=>
    repeat'(first|refine gU ?_|apply gE<;>intro h)<;>conv=>whnf
    ·obtain⟨lc,qA,v,hv,hl,gA⟩:=hA (by omega)
     have e2:(ts.take (0+1)).map encT=[encT lc]:=by rw[take_snoc' qA];rfl
     obtain⟨k2,n2,s2,b2,z2,x2,c2,y2,w2,he⟩:=j06 lc;rw[he] at gA e2;obtain⟨k1,n1,s1,l1,t1,b1,z1,x1,c1,y1,ys1,rfl,rfl,qD,qB,wA,hC,qE,gC,hB,wB,wC⟩:=hl.open;refine VIdx.mk _ hv (VOk.mk (j0z rfl hy) ?_);repeat'(first|refine gU ?_|refine j01 gA fun _=>?_|apply gK)<;>conv=>whnf
     exact VAgain.mk _ rfl _ (j0B (.cons (j02 rfl rfl) (.cons (j02 rfl rfl) (.cons (j02 rfl rfl) ( (.cons (j02 rfl rfl) (.cons (j05 rfl) .nil)))))) (.cons (j02 rfl rfl) (.cons (j02 rfl rfl) (.cons (j02 rfl rfl) ( (.cons j0l (.cons (j05 rfl) .nil)))))) rfl rfl rfl rfl rfl) ⟨1,by omega,by omega,congrArg (fun t=>(⟨_,[.box _ [iv k,iv nn,sv s,.sl b z xs,.sl c y ys],.box _ zTm,.box _ [iv k,iv nn,sv s,.sl true 0 [],.ms 4 1],.dead,.row false _ 5 t]⟩:AS)) e2.symm⟩
    ·obtain rfl:ts=[]:=AJ (by omega)
     rfl
   |succ j=>
    have wD:((ts.take (j+1)).map encT).length=j+1:=by simp;omega
    repeat'(first|refine gU ?_|apply gE<;>intro h)<;>conv=>whnf
    ·obtain⟨lc,qA,v,hv,hl,gA⟩:=hA (by omega)
     have e2:(ts.take (j+1+1)).map encT=(ts.take (j+1)).map encT++[encT lc]:=by rw[take_snoc' qA];simp
     have hD:((ts.take (j+1)).map encT++[encT lc]).all (pur 8)=true:=e2▸j0D _ 6;obtain⟨k2,n2,s2,b2,z2,x2,c2,y2,w2,he⟩:=j06 lc;rw[he] at gA e2 hD;obtain⟨k1,n1,s1,l1,t1,b1,z1,x1,c1,y1,ys1,rfl,rfl,qD,qB,wA,hC,qE,gC,hB,wB,wC⟩:=hl.open;refine VIdx.mk _ hv (VOk.mk (j0z rfl hy) ?_);repeat'(first|refine gU ?_|refine j01 gA fun _=>?_|refine VOk.mk (j0N (w:=80) (r:=140737488355328) wD rfl rfl rfl rfl (by simp only[AC,AG];omega) (by simp only[AC,AG];omega)) ?_|apply gK)<;>conv=>whnf
     exact VAgain.mk _ rfl _ (j0B (.cons (j02 rfl rfl) (.cons (j02 rfl rfl) (.cons (j02 rfl rfl) ( (.cons j0l (.cons (j05 hD) (.cons (j02 rfl rfl) .nil))))))) (.cons (j02 rfl rfl) (.cons (j02 rfl rfl) (.cons (j02 rfl rfl) ( (.cons j0l (.cons (j05 hD) .nil)))))) rfl rfl rfl rfl rfl) ⟨j+1+1,by omega,by omega,congrArg (fun t=>(⟨_,[.box _ [iv k,iv nn,sv s,.sl b z xs,.sl c y ys],.box _ zTm,.box _ [iv k,iv nn,sv s,.sl true 0 [],.ms 4 (j+1+1)],.dead,.row false _ 5 t]⟩:AS)) e2.symm⟩
    ·have qC:j+1=ts.length:=by omega
     have e2:(ts.take (j+1)).map encT=ts.map encT:=by rw[qC,BT]
     (refine j0m rfl (j03 (j2V (j03 rfl (j03 rfl (j03 rfl (j03 rfl (j03 (j0p rfl wD.symm (j0D _ 4)) j0h)))))) j0h) rfl ?_;rw[j1V (by omega),←e2];rfl)
 |succ i=>
  have hF:((ls.take (i+1)).map encL).length=i+1:=by simp;omega
  repeat'(first|refine gU ?_|apply gE<;>intro h)<;>conv=>whnf
  ·obtain⟨lc,qA,v,hv,hl,gA⟩:=gB (by omega)
   have e:(ls.take (i+1+1)).map encL=(ls.take (i+1)).map encL++[encL lc]:=by rw[take_snoc' qA];simp
   have wE:((ls.take (i+1)).map encL++[encL lc]).all (pur 8)=true:=e▸j0V _ 6;obtain⟨k2,n2,b2,z2,x2,he⟩:=j0t lc;rw[he] at gA e wE;obtain⟨k1,n1,l1,b1,z1,x1,rfl,rfl,qD,qB,wA,hC⟩:=hl.open;refine VIdx.mk _ hv (VOk.mk (j0z rfl hz) ?_);repeat'(first|refine gU ?_|refine j01 gA fun _=>?_|refine VOk.mk (j0N (w:=40) (r:=140737488355328) hF rfl rfl rfl rfl (by simp only[AC,AG];omega) (by simp only[AC,AG];omega)) ?_|apply gK)<;>conv=>whnf
   exact VAgain.mk _ rfl _ (j0B (.cons (j02 rfl rfl) (.cons (j02 rfl rfl) (.cons (j02 rfl rfl) (.cons j0l (.cons (j05 wE) (.cons (j02 rfl rfl) .nil)))))) (.cons (j02 rfl rfl) (.cons (j02 rfl rfl) (.cons (j02 rfl rfl) (.cons j0l (.cons (j05 wE) .nil))))) rfl rfl rfl rfl rfl) ⟨i+1+1,by omega,by omega,congrArg (fun t=>(⟨_,[.box _ [iv k,iv nn,sv s,.sl b z xs,.sl c y ys],.box _ zTm,.box _ [iv k,iv nn,sv s,.ms 4 (i+1+1),.sl true 0 []],.dead,.row false _ 3 t]⟩:AS)) e.symm⟩
  ·have kE:i+1=ls.length:=by omega
   have e:(ls.take (i+1)).map encL=ls.map encL:=by rw[kE,BT]
   have gF:j7F ls=.sl false 3 ((ls.take (i+1)).map encL):=by rw[j4T (by omega),e]
   have hE:((ls.take (i+1)).map encL).all (pur 8)=true:=j0V _ 6;have gD:((ls.take (i+1)).map encL).all (pur 6)=true:=j0V _ 4;rw[gF];refine j04 (G:=Nat) (fun j=>[(34,iv j)]) (fun j=>match j with
     |0=>[.box 25 [iv k,iv nn,sv s,.sl b z xs,.sl c y ys],.box 25 zTm,.box 25 [iv k,iv nn,sv s,.ms 4 (i+1),.sl true 0 []],.dead,.row false 86 3 ((ls.take (i+1)).map encL)]
     |n+1=>[.box 25 [iv k,iv nn,sv s,.sl b z xs,.sl c y ys],.box 25 zTm,.box 25 [iv k,iv nn,sv s,.ms 4 (i+1),.ms 6 (n+1)],.dead,.row false 86 3 ((ls.take (i+1)).map encL),.dead,.row false 25 5 ((ts.take (n+1)).map encT)]) (fun j=>j≤ts.length) (fun j=>ts.length-j) 0 (by omega) rfl rfl ?_
   intro j hj;have hA:∀(qC:j<ts.length),∃lc,ts[j]?=some lc∧∃v,ys[j]?=some v∧TmP lc v∧Pf C1 115 [v] [encT lc]:=fun qC=>by
    obtain⟨lc,qA⟩:∃lc,ts[j]?=some lc:=⟨_,AA qC⟩;obtain⟨v,hv,hl⟩:=kF.at qA;exact⟨lc,qA,v,hv,hl,ih _ (AE qA) _ hl⟩
   cases j with
   |zero=>
    repeat'(first|refine gU ?_|apply gE<;>intro h)<;>conv=>whnf
    ·obtain⟨lc,qA,v,hv,hl,gA⟩:=hA (by omega)
     have e2:(ts.take (0+1)).map encT=[encT lc]:=by rw[take_snoc' qA];rfl
     obtain⟨k2,n2,s2,b2,z2,x2,c2,y2,w2,he⟩:=j06 lc;rw[he] at gA e2;obtain⟨k1,n1,s1,l1,t1,b1,z1,x1,c1,y1,ys1,rfl,rfl,qD,qB,wA,hC,qE,gC,hB,wB,wC⟩:=hl.open;refine VIdx.mk _ hv (VOk.mk (j0z rfl hy) ?_);repeat'(first|refine gU ?_|refine j01 gA fun _=>?_|apply gK)<;>conv=>whnf
     exact VAgain.mk _ rfl _ (j0B (.cons (j02 rfl rfl) (.cons (j02 rfl rfl) (.cons (j02 rfl rfl) (.cons j0l (.cons (j05 hE) (.cons (j02 rfl rfl) (.cons (j05 rfl) .nil))))))) (.cons (j02 rfl rfl) (.cons (j02 rfl rfl) (.cons (j02 rfl rfl) (.cons j0l (.cons (j05 hE) (.cons j0l (.cons (j05 rfl) .nil))))))) rfl rfl rfl rfl rfl) ⟨1,by omega,by omega,congrArg (fun t=>(⟨_,[.box _ [iv k,iv nn,sv s,.sl b z xs,.sl c y ys],.box _ zTm,.box _ [iv k,iv nn,sv s,.ms 4 (i+1),.ms 6 1],.dead,.row false 86 3 ((ls.take (i+1)).map encL),.dead,.row false _ 5 t]⟩:AS)) e2.symm⟩
    ·obtain rfl:ts=[]:=AJ (by omega)
     (refine j0m rfl (j03 (j2V (j03 rfl (j03 rfl (j03 rfl (j03 (j0p rfl hF.symm gD) (j03 rfl j0h)))))) j0h) rfl ?_;rfl)
   |succ j=>
    have wD:((ts.take (j+1)).map encT).length=j+1:=by simp;omega
    repeat'(first|refine gU ?_|apply gE<;>intro h)<;>conv=>whnf
    ·obtain⟨lc,qA,v,hv,hl,gA⟩:=hA (by omega)
     have e2:(ts.take (j+1+1)).map encT=(ts.take (j+1)).map encT++[encT lc]:=by rw[take_snoc' qA];simp
     have hD:((ts.take (j+1)).map encT++[encT lc]).all (pur 8)=true:=e2▸j0D _ 6;obtain⟨k2,n2,s2,b2,z2,x2,c2,y2,w2,he⟩:=j06 lc;rw[he] at gA e2 hD;obtain⟨k1,n1,s1,l1,t1,b1,z1,x1,c1,y1,ys1,rfl,rfl,qD,qB,wA,hC,qE,gC,hB,wB,wC⟩:=hl.open;refine VIdx.mk _ hv (VOk.mk (j0z rfl hy) ?_);repeat'(first|refine gU ?_|refine j01 gA fun _=>?_|refine VOk.mk (j0N (w:=80) (r:=140737488355328) wD rfl rfl rfl rfl (by simp only[AC,AG];omega) (by simp only[AC,AG];omega)) ?_|apply gK)<;>conv=>whnf
     exact VAgain.mk _ rfl _ (j0B (.cons (j02 rfl rfl) (.cons (j02 rfl rfl) (.cons (j02 rfl rfl) (.cons j0l (.cons (j05 hE) (.cons j0l (.cons (j05 hD) (.cons (j02 rfl rfl) .nil)))))))) (.cons (j02 rfl rfl) (.cons (j02 rfl rfl) (.cons (j02 rfl rfl) (.cons j0l (.cons (j05 hE) (.cons j0l (.cons (j05 hD) .nil))))))) rfl rfl rfl rfl rfl) ⟨j+1+1,by omega,by omega,congrArg (fun t=>(⟨_,[.box _ [iv k,iv nn,sv s,.sl b z xs,.sl c y ys],.box _ zTm,.box _ [iv k,iv nn,sv s,.ms 4 (i+1),.ms 6 (j+1+1)],.dead,.row false 86 3 ((ls.take (i+1)).map encL),.dead,.row false _ 5 t]⟩:AS)) e2.symm⟩
    ·have qC:j+1=ts.length:=by omega
     have e2:(ts.take (j+1)).map encT=ts.map encT:=by rw[qC,BT]
     (refine j0m rfl (j03 (j2V (j03 rfl (j03 rfl (j03 rfl (j03 (j0p rfl hF.symm gD) (j03 (j0p rfl wD.symm (j0D _ 4)) j0h)))))) j0h) rfl ?_;rw[j1V (by omega),←e2];try rfl)
open Go Go.Am Go.Gw
def je2(l:Lv):∀v,LvP l v→∀m w,LvP m w→Pf C1 71 [v,w] [bv (eqLv l m)]:=by
 induction l using Lv.ind with
 |_ k nn ls ih=>
 intro v h m w hm;obtain⟨_,_,_,b,z,xs,⟨rfl,rfl,rfl⟩,rfl,hz,qD,hlen,hF⟩:=h.open;obtain⟨k',nn',ls',b',z',xs',rfl,rfl,gC,qA,gB,hE⟩:=hm.open;refine gR Tryz.func71 ?_;repeat'(first|refine gU ?_|apply gE<;>intro h)<;>conv=>whnf
 ·have wE:ls.length=ls'.length:=by omega
  have qC:eqLv (.mk k nn ls) (.mk k' nn' ls')=j5I ls ls':=by simp_all[eqLv]
  refine j04 (G:=Nat) (fun i=>[(5,iv i)]) (fun _=>_) (fun i=>i≤ls.length∧j5I (ls.drop i) (ls'.drop i)=j5I ls ls') (fun i=>ls.length-i) 0 ⟨by omega,rfl⟩ rfl rfl ?_
  rintro i ⟨hi,hA⟩;repeat'(first|refine gU ?_|apply gE<;>intro h)<;>conv=>whnf
  ·have hC:i<ls.length:=by omega
   obtain⟨lc,wA⟩:∃lc,ls[i]?=some lc:=⟨_,AA hC⟩;obtain⟨mc,hB⟩:∃mc,ls'[i]?=some mc:=⟨_,AA (by omega)⟩
   obtain⟨v,hv,hl⟩:=qD.at wA;obtain⟨w,hw,wB⟩:=qA.at hB;have gA:=ih _ (AE wA) _ hl _ _ wB;obtain⟨k1,n1,l1,b1,z1,x1,rfl,rfl,qE,hD,qB,wD⟩:=hl.open;obtain⟨k2,n2,l2,b2,z2,x2,rfl,rfl,kE,wC,hlen2,gD⟩:=wB.open;rw[drop_at wA,drop_at hB] at hA;simp only[j5I] at hA;refine VIdx.mk _ hv (VOk.mk (j0z rfl hz) ?_);repeat'(first|refine gU ?_|apply gM<;>intro h|refine VIdx.mk _ hw ?_|refine gZ gC ?_|refine j01 gA fun _=>?_|apply gK)<;>conv=>whnf
   ·refine VAgain.mk _ rfl _ (j0a rfl rfl rfl) ⟨i+1,⟨hC,?_⟩,by omega,rfl⟩
    rw[←hA,h];simp
   ·rw[qC,←hA,h];rfl
  ·have:i=ls.length:=by omega
   subst this;rw[BU] at hA;rw[qC,←hA];rfl
 all_goals simp_all[eqLv]
 all_goals omega
def j2D(t:Tm):∀v,TmP t v→∀m w,TmP m w→Pf C1 21 [v,w] [bv (eqTm t m)]:=by
 induction t using Tm.ind with
 |_ k nn s ls ts ih=>
 intro v h m w hm;obtain⟨_,_,_,_,_,b,z,xs,c,y,ys,⟨rfl,rfl,rfl,rfl,rfl⟩,rfl,hz,gH,hlen,qK,hy,wG,hlen2,gD,hK⟩:=h.open;obtain⟨k',nn',s',ls',ts',b',z',xs',c',y',ys',rfl,rfl,kG,hC,qE,gI,hH,gB,hD,wF,kI⟩:=hm.open;refine gR Tryz.func21 ?_;repeat'(first|refine gU ?_|apply gE<;>intro h|apply gM<;>intro h|refine j1w ?_)<;>conv=>whnf
 ·have kK:ls.length=ls'.length:=by omega
  have wJ:ts.length=ts'.length:=by omega
  have qD:eqTm (.mk k nn s ls ts) (.mk k' nn' s' ls' ts')=(j5I ls ls'&&j9B ts ts'):=by simp_all[eqTm]
  refine j04 (G:=Nat) (fun i=>[(5,iv i)]) (fun _=>_) (fun i=>i≤ls.length∧j5I (ls.drop i) (ls'.drop i)=j5I ls ls') (fun i=>ls.length-i) 0 ⟨by omega,rfl⟩ rfl rfl ?_
  rintro i ⟨hi,qA⟩;repeat'(first|refine gU ?_|apply gE<;>intro h)<;>conv=>whnf
  ·have kF:i<ls.length:=by omega
   obtain⟨lc,wE⟩:∃lc,ls[i]?=some lc:=⟨_,AA kF⟩;obtain⟨mc,wA⟩:∃mc,ls'[i]?=some mc:=⟨_,AA (by omega)⟩
   obtain⟨v,hv,hl⟩:=gH.at wE;obtain⟨w,hw,qB⟩:=hC.at wA;have gA:=je2 _ _ hl _ _ qB;obtain⟨k1,n1,l1,b1,z1,x1,rfl,rfl,hG,wB,hB,wD⟩:=hl.open;obtain⟨k2,n2,l2,b2,z2,x2,rfl,rfl,hJ,qH,hlen2,gD⟩:=qB.open;rw[drop_at wE,drop_at wA] at qA;simp only[j5I] at qA;refine VIdx.mk _ hv (VOk.mk (j0z rfl hz) ?_);repeat'(first|refine gU ?_|apply gM<;>intro h|refine VIdx.mk _ hw ?_|refine gZ kG ?_|refine j01 gA fun _=>?_|apply gK)<;>conv=>whnf
   ·refine VAgain.mk _ rfl _ (j0a rfl rfl rfl) ⟨i+1,⟨kF,?_⟩,by omega,rfl⟩
    rw[←qA,h];simp
   ·rw[qD,←qA,h];rfl
  ·have hE:j5I ls ls'=true:=by
    have:i=ls.length:=by omega
    subst this;rw[←qA,BU];rfl
   refine j04 (G:=Nat) (fun i=>[(6,iv i)]) (fun _=>_) (fun i=>i≤ts.length∧j9B (ts.drop i) (ts'.drop i)=j9B ts ts') (fun i=>ts.length-i) 0 ⟨by omega,rfl⟩ rfl rfl ?_
   rintro j ⟨hj,hA⟩;repeat'(first|refine gU ?_|apply gE<;>intro h)<;>conv=>whnf
   ·have hF:j<ts.length:=by omega
    obtain⟨tc,qC⟩:∃tc,ts[j]?=some tc:=⟨_,AA hF⟩;obtain⟨mc,wA⟩:∃mc,ts'[j]?=some mc:=⟨_,AA (by omega)⟩
    obtain⟨v,hv,hl⟩:=wG.at qC;obtain⟨w,hw,qB⟩:=gB.at wA;have gA:=ih _ (AE qC) _ hl _ _ qB;obtain⟨k1,n1,s1,l1,t1,b1,z1,x1,c1,y1,ys1,rfl,rfl,hG,wB,hB,wD,qJ,gG,wC,gF,hI⟩:=hl.open;obtain⟨k3,n3,s3,l3,t3,b3,z3,x3,c3,y3,ys3,rfl,rfl,wI,kH,kE,qI,kJ,qG,gC,qF,wH⟩:=qB.open;rw[drop_at qC,drop_at wA] at hA;simp only[j9B] at hA;refine VIdx.mk _ hv (VOk.mk (j0z rfl hy) ?_);repeat'(first|refine gU ?_|apply gM<;>intro h|refine VIdx.mk _ hw ?_|refine gZ hH ?_|refine j01 gA fun _=>?_|apply gK)<;>conv=>whnf
    ·refine VAgain.mk _ rfl _ (j0a rfl rfl rfl) ⟨j+1,⟨hF,?_⟩,by omega,rfl⟩
     rw[←hA,h];simp
    ·rw[qD,hE,←hA,h];rfl
   ·have:j=ts.length:=by omega
    subst this;rw[BU] at hA;rw[qD,hE,←hA];rfl
 all_goals simp_all[eqTm]
 all_goals omega
open Go Go.Am Go.Gw
def jhz(n:Int):Pf C1 190 [iv n] [encT (.mk 1 n [] [] [])]:=by
 refine gR Tryz.func190 ?_;repeat'(first|refine gU ?_|apply gE<;>intro h|apply gM<;>intro h|apply gK)<;>conv=>whnf
 rfl
def j6p(t:Tm)(v:PV)(h:TmP t v)(b:Bool)(z:Nat):Pf C1 70 [v,.sl b z []] [encT t]:=by
 have hf:=j3u t v h;obtain⟨k2,n2,s2,b2,z2,x2,c2,y2,ys2,he⟩:=j06 t;obtain⟨k0,n0,s0,ls0,ts0,b0,z0,xs,c,y,ys,rfl,rfl,hz,gA,hlen,hB,hy,qA,hlen2,hA,wA⟩:=h.open;rw[he] at hf⊢;refine gR Tryz.func70 ?_;repeat'(first|refine gU ?_|apply gE<;>intro h|apply gM<;>intro h|refine gX hf ?_|apply gK)<;>conv=>whnf
 refine j04 (G:=Unit) (fun _=>[]) (fun _=>_) (fun _=>True) (fun _=>0) () trivial rfl rfl ?_
 rintro _ _;repeat'(first|refine gU ?_|apply gE<;>intro h|apply gM<;>intro h|apply gK)<;>conv=>whnf
 rfl
def j8u(k i d:Int)(hd:d≤4611686018427387904)(hA:0≤d)(hk:1≤k)(hi:0≤i):Pf C1 294 [iv k,iv i,iv d] [iv (j0n (j0g k) i d)]:=by
 refine gR Tryz.func294 ?_;repeat'(first|refine gU ?_|apply gE<;>intro h|apply gM<;>intro h|apply gK)<;>conv=>whnf
 all_goals simp_all[j0n,j0g]
 all_goals omega
def jn9(k i:Int)(hk:1≤k)(hi:0≤i):Pf C1 196 [iv k,iv i] [bv (decide (i=j0g k))]:=by
 refine gR Tryz.func196 ?_;repeat'(first|refine gU ?_|apply gE<;>intro h|apply gM<;>intro h|apply gK)<;>conv=>whnf
 all_goals simp_all[j0g]
 all_goals omega
def jkv{a:Nat}(h:a≤140737488355328):j0i P .quo T x y (iv a) (iv 16)=some (iv (a/16:Nat)):=by
 have e:((a:Int).tdiv 16)=(a/16:Nat):=by rw[Int.tdiv_eq_ediv_of_nonneg (by omega)];rfl
 have hw:IntKind.i64.wrap ((a/16:Nat):Int)=(a/16:Nat):=by
  have h1:a/16≤a:=FJ a 16;apply wrap_i64;unfold i64;omega
 have hz:¬((16:Int)=0):=by omega
 simp only[j0i,j5r,eqGuard,binOp,Op.intDiv,e,hw,if_neg hz];rfl
def jul(l:Lv)(q:Int)(h:0≤q):1≤lnF l q∧lnF l q≤q+1:=by
 have:=jbK l q h;have:=j4q l;omega
def jbL(q:Int)(h:0≤q):∀(ls:List Lv) (acc:Int),acc≤lnFs ls acc q
 |[],acc=>by simp[lnFs]
 |l::r,acc=>by
  rw[lnFs];split
  ·have:=jbL q h r (acc+lnF l q);have:=jul l q h;omega
  ·omega
mutual
theorem jcm:∀(t:Tm) (q:Int),0≤q→1≤useN t q∧useN t q≤q+1
 | .mk _ _ s ls ts,q,h=>by
  rw[useN];have:=jkE ts (lnFs ls (1+((s.length/16:Nat):Int)) q) q h;have:=jbL q h ls (1+((s.length/16:Nat):Int));omega
theorem jkE:∀(ts:List Tm) (acc q:Int),0≤q→acc≤jcn ts acc q
 |[],acc,q,h=>by simp[jcn]
 |t::r,acc,q,h=>by
  rw[jcn];split
  ·have:=jkE r (acc+useN t q) q h;have:=jcm t q h;omega
  ·omega
end
mutual
theorem jiJ:∀(t:Tm) (q:Int),0≤q→1≤refN t q∧refN t q≤q+1
 | .mk _ _ s ls ts,q,h=>by
  rw[refN];have:=jaS ts (lnFs ls 1 q) q h;have:=jbL q h ls 1;omega
theorem jaS:∀(ts:List Tm) (acc q:Int),0≤q→acc≤j8e ts acc q
 |[],acc,q,h=>by simp[j8e]
 |t::r,acc,q,h=>by
  rw[j8e];split
  ·have:=jaS r (acc+refN t q) q h;have:=jiJ t q h;omega
  ·omega
end
def j3H(t:Tm):∀v,TmP t v→∀(q:Int),0≤q→q≤1000000→Pf C1 54 [v,iv q] [iv (useN t q)]:=by
 induction t using Tm.ind with
 |_ k nn s ls ts ih=>
 intro v h q h0 h1;obtain⟨_,_,_,_,_,b,z,xs,c,y,ys,⟨rfl,rfl,rfl,rfl,rfl⟩,rfl,hz,wD,hlen,gG,hy,gD,hlen2,wE,kG⟩:=h.open;have hsz:ByteArray.size ⟨s.toArray⟩=s.length:=by simp[j2A]
 have qG:s.length/16≤s.length:=FJ _ _;refine gR Tryz.func54 ?_;repeat'(first|refine gU ?_|apply gE<;>intro h|apply gM<;>intro h|apply gK)<;>conv=>whnf
 refine VRes.mk _ (jkv (by rw[hsz];omega)) ?_
 rw[hsz];repeat'(first|refine gU ?_|apply gE<;>intro h|apply gM<;>intro h|apply gK)<;>conv=>whnf
 refine j04 (G:=Nat×Int) (fun g=>[(6,iv g.1),(5,iv g.2)]) (fun g=>_) (fun g=>g.1≤ls.length∧1≤g.2∧g.2≤8796093022210+2*q∧lnFs (ls.drop g.1) g.2 q=lnFs ls (1+((s.length/16:Nat):Int)) q) (fun g=>ls.length-g.1) (0,1+((s.length/16:Nat):Int)) ⟨by omega,by dsimp only;omega,by dsimp only;omega,rfl⟩ rfl rfl ?_
 rintro⟨i,acc⟩ ⟨hi,gF,qF,qA⟩;dsimp only at hi gF qF qA⊢;repeat'(first|refine gU ?_|apply gE<;>intro h|apply gM<;>intro h|apply gK)<;>conv=>whnf
 ·have gC:i<ls.length:=by omega
  obtain⟨lc,qB⟩:∃lc,ls[i]?=some lc:=⟨_,AA gC⟩;obtain⟨v,hv,hl⟩:=wD.at qB;have gA:=j4J lc _ hl q h0 h1;have hx:=jbK lc q h0;have hG:=j4q lc;obtain⟨k1,n1,l1,b1,z1,x1,rfl,rfl,hD,gB,hB,hC⟩:=hl.open;refine VIdx.mk _ hv (VOk.mk (j0z rfl hz) ?_);repeat'(first|refine gU ?_|apply gE<;>intro h|apply gM<;>intro h|refine gX gA ?_|apply gK)<;>conv=>whnf
  refine VAgain.mk _ rfl _ (j0a rfl rfl rfl) ⟨(i+1,acc+lnF (.mk k1 n1 l1) q),⟨gC,by dsimp only;omega,by dsimp only;omega,?_⟩,by dsimp only;omega,rfl⟩
  rw[←qA,drop_at qB,lnFs,if_pos (by omega)]
 all_goals
  have e:lnFs ls (1+((s.length/16:Nat):Int)) q=acc:=by
   rw[←qA]
   by_cases qE:i<ls.length
   ·obtain⟨lc,qB⟩:∃lc,ls[i]?=some lc:=⟨_,AA qE⟩;rw[drop_at qB,lnFs,if_neg (by omega)]
   ·rw[AV (by omega),lnFs]
  clear qA;refine j04 (G:=Nat×Int) (fun g=>[(7,iv g.1),(5,iv g.2)]) (fun g=>_) (fun g=>g.1≤ts.length∧1≤g.2∧g.2≤8796093022210+2*q∧jcn (ts.drop g.1) g.2 q=jcn ts acc q) (fun g=>ts.length-g.1) (0,acc) ⟨by omega,by dsimp only;omega,by dsimp only;omega,rfl⟩ rfl rfl ?_
  rintro⟨j,ac2⟩ ⟨hj,kF,hF,hA⟩;dsimp only at hj kF hF hA⊢;repeat'(first|refine gU ?_|apply gE<;>intro h|apply gM<;>intro h|apply gK)<;>conv=>whnf
  ·have qC:j<ts.length:=by omega
   obtain⟨tc,wA⟩:∃tc,ts[j]?=some tc:=⟨_,AA qC⟩;obtain⟨v,hv,hl⟩:=gD.at wA;have gA:=ih _ (AE wA) _ hl q h0 h1;have hx:=jcm tc q h0;obtain⟨k1,n1,s1,l1,t1,b1,z1,x1,c1,y1,ys1,rfl,rfl,hD,gB,hB,hC,wF,qD,wB,wC,hE⟩:=hl.open;refine VIdx.mk _ hv (VOk.mk (j0z rfl hy) ?_);repeat'(first|refine gU ?_|apply gE<;>intro h|apply gM<;>intro h|refine gX gA ?_|apply gK)<;>conv=>whnf
   refine VAgain.mk _ rfl _ (j0a rfl rfl rfl) ⟨(j+1,ac2+useN (.mk k1 n1 s1 l1 t1) q),⟨qC,by dsimp only;omega,by dsimp only;omega,?_⟩,by dsimp only;omega,rfl⟩
   rw[←hA,drop_at wA,jcn,if_pos (by omega)]
  all_goals
   have e2:jcn ts acc q=ac2:=by
    rw[←hA]
    by_cases kE:j<ts.length
    ·obtain⟨tc,wA⟩:∃tc,ts[j]?=some tc:=⟨_,AA kE⟩;rw[drop_at wA,jcn,if_neg (by omega)]
    ·rw[AV (by omega),jcn]
   rw[useN,e,e2,←j4o]
def jh2(t:Tm):∀v,TmP t v→∀(q:Int),0≤q→q≤1000000→Pf C1 134 [v,iv q] [iv (refN t q)]:=by
 induction t using Tm.ind with
 |_ k nn s ls ts ih=>
 intro v h q h0 h1;obtain⟨_,_,_,_,_,b,z,xs,c,y,ys,⟨rfl,rfl,rfl,rfl,rfl⟩,rfl,hz,wD,hlen,qG,hy,gD,hlen2,wE,kG⟩:=h.open;refine gR Tryz.func134 ?_;repeat'(first|refine gU ?_|apply gE<;>intro h|apply gM<;>intro h|apply gK)<;>conv=>whnf
 refine j04 (G:=Nat×Int) (fun g=>[(6,iv g.1),(5,iv g.2)]) (fun g=>_) (fun g=>g.1≤ls.length∧1≤g.2∧g.2≤8796093022210+2*q∧lnFs (ls.drop g.1) g.2 q=lnFs ls (1) q) (fun g=>ls.length-g.1) (0,1) ⟨by omega,by dsimp only;omega,by dsimp only;omega,rfl⟩ rfl rfl ?_
 rintro⟨i,acc⟩ ⟨hi,gF,qF,qA⟩;dsimp only at hi gF qF qA⊢;repeat'(first|refine gU ?_|apply gE<;>intro h|apply gM<;>intro h|apply gK)<;>conv=>whnf
 ·have gC:i<ls.length:=by omega
  obtain⟨lc,qB⟩:∃lc,ls[i]?=some lc:=⟨_,AA gC⟩;obtain⟨v,hv,hl⟩:=wD.at qB;have gA:=j4J lc _ hl q h0 h1;have hx:=jbK lc q h0;have hG:=j4q lc;obtain⟨k1,n1,l1,b1,z1,x1,rfl,rfl,hD,gB,hB,hC⟩:=hl.open;refine VIdx.mk _ hv (VOk.mk (j0z rfl hz) ?_);repeat'(first|refine gU ?_|apply gE<;>intro h|apply gM<;>intro h|refine gX gA ?_|apply gK)<;>conv=>whnf
  refine VAgain.mk _ rfl _ (j0a rfl rfl rfl) ⟨(i+1,acc+lnF (.mk k1 n1 l1) q),⟨gC,by dsimp only;omega,by dsimp only;omega,?_⟩,by dsimp only;omega,rfl⟩
  rw[←qA,drop_at qB,lnFs,if_pos (by omega)]
 all_goals
  have e:lnFs ls (1) q=acc:=by
   rw[←qA]
   by_cases qE:i<ls.length
   ·obtain⟨lc,qB⟩:∃lc,ls[i]?=some lc:=⟨_,AA qE⟩;rw[drop_at qB,lnFs,if_neg (by omega)]
   ·rw[AV (by omega),lnFs]
  clear qA;refine j04 (G:=Nat×Int) (fun g=>[(7,iv g.1),(5,iv g.2)]) (fun g=>_) (fun g=>g.1≤ts.length∧1≤g.2∧g.2≤8796093022210+2*q∧j8e (ts.drop g.1) g.2 q=j8e ts acc q) (fun g=>ts.length-g.1) (0,acc) ⟨by omega,by dsimp only;omega,by dsimp only;omega,rfl⟩ rfl rfl ?_
  rintro⟨j,ac2⟩ ⟨hj,kF,hF,hA⟩;dsimp only at hj kF hF hA⊢;repeat'(first|refine gU ?_|apply gE<;>intro h|apply gM<;>intro h|apply gK)<;>conv=>whnf
  ·have qC:j<ts.length:=by omega
   obtain⟨tc,wA⟩:∃tc,ts[j]?=some tc:=⟨_,AA qC⟩;obtain⟨v,hv,hl⟩:=gD.at wA;have gA:=ih _ (AE wA) _ hl q h0 h1;have hx:=jiJ tc q h0;obtain⟨k1,n1,s1,l1,t1,b1,z1,x1,c1,y1,ys1,rfl,rfl,hD,gB,hB,hC,wF,qD,wB,wC,hE⟩:=hl.open;refine VIdx.mk _ hv (VOk.mk (j0z rfl hy) ?_);repeat'(first|refine gU ?_|apply gE<;>intro h|apply gM<;>intro h|refine gX gA ?_|apply gK)<;>conv=>whnf
   refine VAgain.mk _ rfl _ (j0a rfl rfl rfl) ⟨(j+1,ac2+refN (.mk k1 n1 s1 l1 t1) q),⟨qC,by dsimp only;omega,by dsimp only;omega,?_⟩,by dsimp only;omega,rfl⟩
   rw[←hA,drop_at wA,j8e,if_pos (by omega)]
  all_goals
   have e2:j8e ts acc q=ac2:=by
    rw[←hA]
    by_cases kE:j<ts.length
    ·obtain⟨tc,wA⟩:∃tc,ts[j]?=some tc:=⟨_,AA kE⟩;rw[drop_at wA,j8e,if_neg (by omega)]
    ·rw[AV (by omega),j8e]
   rw[refN,e,e2,←j4o]

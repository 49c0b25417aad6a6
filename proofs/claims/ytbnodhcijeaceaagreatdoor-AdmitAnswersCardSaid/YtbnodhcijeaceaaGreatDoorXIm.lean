/- Heads and arguments of terms that are one (package conv). -/
import Derived.Test.YtbnodhcijeaceaaGreatDoorXIf
set_option linter.all false
set_option maxHeartbeats 8000000
set_option maxRecDepth 100000
namespace Go.Proofs.YtbnodhcijeaceaaGreatDoor
open Go Go.Am Go.Gw
def CrB(f:FuncId)(args cs:List PV)(tot l:Int)(r:Except Int Bool)(l':Int):Prop:=match r with
 | .ok q=>Fr f args cs tot l (.ret [bv q]) l'
 | .error e=>Fr f args cs tot l (.pan (j0f e)) l'
def j6h(cs:List PV)(tot:Int)(S:List Tm→Tm→Tm→M Bool):Prop:=∀ctx cv,CtxP ctx cv→∀a av,TmP a av→shT a=true→sizT a≤2000→∀b wv,TmP b wv→shT b=true→sizT b≤2000→∀l r l',0≤l→l≤tot→S ctx a b l=some (r,l')→CrB 89 [.ci [.bp 0 0],cv,av,wv] cs tot l r l'
def jdK:∀{ls ms:List Lv},j2j ls ms=true→ls.length=ms.length
 |[],[],_=>rfl
 |[],_::_,h=>by simp[j2j] at h
 |_::_,[],h=>by simp[j2j] at h
 |l::r,m::s,h=>by
  simp only[j2j,AB] at h;simp[jdK h.2]
variable{r:AEnd}{K:AEnd→Sto→Prop}{f:FuncId}{l l' tot:Int}{ls:List Lv}{args args0 cs:List PV}{T:List Tm→Tm→M Tm}{S:List Tm→Tm→Tm→M Bool}{i:Nat}{st:Sto}{t:Tm}{W:Tm→M Tm}
def jpn{ms:List Lv}{l m:Lv}(hl:ls[i]?=some l)(hm:ms[i]?=some m):j2j (ls.drop i) (ms.drop i)=(jap l m&&j2j (ls.drop (i+1)) (ms.drop (i+1))):=by rw[drop_at hl,drop_at hm,j2j]
def ji0(ls ms:List Lv)(b b':Bool)(z z':Nat)(xs xs':List PV)(hz:z=3∨xs=[])(wB:z'=3∨xs'=[])(gA:LvsP ls xs)(qA:LvsP ms xs')(qC:ls.length≤1000000):
  Pf C1 199 [.sl b z xs,.sl b' z' xs',.fn 204 [] []] [bv (j2j ls ms)]:=by
 have hlen:=gA.len;have qB:=qA.len;refine gR Tryz.func199 ?_;repeat'(first|refine gU ?_|apply gE<;>intro h)<;>conv=>whnf
 rotate_left
 ·have e:j2j ls ms=false:=CM.2 fun e=>by
   have:=jdK e;omega
  rw[e]
 refine j04 (G:=Nat) (fun i=>[(17,iv i)]) (fun _=>_) (fun i=>i≤ls.length∧j2j (ls.drop i) (ms.drop i)=j2j ls ms) (fun i=>ls.length-i) 0 ⟨by omega,rfl⟩ rfl rfl ?_
 rintro i ⟨hi,hA⟩;dsimp only at hi hA⊢;repeat'(first|refine gU ?_|apply gE<;>intro h)<;>conv=>whnf
 ·have gB:i<ls.length:=by omega
  obtain⟨tc,hB⟩:∃tc,ls[i]?=some tc:=⟨_,AA gB⟩;obtain⟨td,wA⟩:∃td,ms[i]?=some td:=⟨_,AA (by omega)⟩
  obtain⟨v,hv,hl⟩:=gA.at hB;obtain⟨w,hw,hm⟩:=qA.at wA;have hC:=jfD tc v hl td w hm;rw[jpn hB wA] at hA;obtain⟨k1,n1,l1,b1,z1,x1,rfl,rfl,-⟩:=hl.open;obtain⟨k2,n2,l2,b2,z2,x2,rfl,rfl,-⟩:=hm.open;repeat'(first|refine gU ?_|apply gM<;>intro h|refine VIdx.mk _ hv ?_|refine VIdx.mk _ hw ?_|refine gZ hz ?_|refine gZ wB ?_|refine gX hC ?_)<;>conv=>whnf
  ·refine VAgain.mk _ rfl _ (j0a rfl rfl rfl) ⟨i+1,⟨gB,?_⟩,by omega,rfl⟩
   rw[←hA,(by assumption:jap _ _=true)]
   rfl
  ·rw[←hA,(by assumption:jap _ _=false)]
   rfl
 ·have e:ls.drop i=[]:=AV (by omega)
  have e':ms.drop i=[]:=AV (by omega)
  rw[e,e',j2j] at hA;rw[←hA]
def jd8(a:Tm)(v:PV)(h:TmP a v)(b:Tm)(w:PV)(h':TmP b w)(hl:a.levels.length≤1000000):Pf C1 202 [v,w] [bv (ja9 a b)]:=by
 obtain⟨k1,n1,s1,l1,t1,b1,z1,x1,c1,y1,ys1,rfl,rfl,qA,hx1,-⟩:=h.open;obtain⟨k2,n2,s2,l2,t2,b2,z2,x2,c2,y2,ys2,rfl,rfl,hA,gA,-⟩:=h'.open;have he:=ji0 l1 l2 b1 b2 z1 z2 x1 x2 qA hA hx1 gA hl;have e:ja9 (.mk k1 n1 s1 l1 t1) (.mk k2 n2 s2 l2 t2)=(decide (k1=k2)&&((decide (k1=1)&&decide (n1=n2))||(decide (k1=3)&&(s1 == s2&&j2j l1 l2)))):=rfl
 rw[e];clear e;generalize j2j l1 l2=q at *
 by_cases e1:k1=k2
 ·subst e1
  by_cases e2:k1=1
  ·subst e2;have er:(decide ((1:Int)=1)&&((decide ((1:Int)=1)&&decide (n1=n2))||(decide ((1:Int)=3)&&(s1 == s2&&q))))=decide (n1=n2):=by simp
   rw[er];refine gR Tryz.func202 ?_;repeat'(first|refine gU ?_|apply gE<;>intro h)<;>conv=>whnf
   all_goals first
    |rfl
    |(refine j0O ?_;simp_all;done)
  ·by_cases e3:k1=3
   ·subst e3
    by_cases e4:s1=s2
    ·subst e4;have er:(decide ((3:Int)=3)&&((decide ((3:Int)=1)&&decide (n1=n2))||(decide ((3:Int)=3)&&(s1 == s1&&q))))=q:=by simp
     rw[er];have hq:(s1 == s1)=true:=by simp
     refine gR Tryz.func202 ?_;repeat'(first|refine gU ?_|refine j1w ?_|refine gX he ?_)<;>conv=>whnf
     all_goals first
      |rfl
      |(refine j0O ?_;simp_all;done)
    ·have hq:(s1 == s2)=false:=by simpa using e4
     have er:(decide ((3:Int)=3)&&((decide ((3:Int)=1)&&decide (n1=n2))||(decide ((3:Int)=3)&&(s1 == s2&&q))))=false:=by simp[e4]
     rw[er];refine gR Tryz.func202 ?_;repeat'(first|refine gU ?_|refine j1w ?_)<;>conv=>whnf
     all_goals first
      |rfl
      |(refine j0O ?_;simp_all;done)
      |(exfalso;simp_all;done)
   ·have er:(decide (k1=k1)&&((decide (k1=1)&&decide (n1=n2))||(decide (k1=3)&&(s1 == s2&&q))))=false:=by simp[e2,e3]
    rw[er];refine gR Tryz.func202 ?_;repeat'(first|refine gU ?_|apply gE<;>intro h)<;>conv=>whnf
    all_goals first
     |rfl
     |(exfalso;omega)
     |(refine j0O ?_;simp_all;done)
 ·have er:(decide (k1=k2)&&((decide (k1=1)&&decide (n1=n2))||(decide (k1=3)&&(s1 == s2&&q))))=false:=by simp[e1]
  rw[er];refine gR Tryz.func202 ?_;repeat'(refine gU ?_)<;>conv=>whnf
  all_goals first
   |rfl
   |(exfalso;omega)
   |(refine j0O ?_;simp_all;done)
def juE(cv:PV):PV:=.fn 255 [] [.ci [.ci [.bp 0 0]],.cp [cv]]
def jiP(hS:j6h cs tot S)(ctx:List Tm)(cv:PV)(hc:CtxP ctx cv)(a:Tm)(av:PV)(ha:TmP a av)(sa:shT a=true)(za:sizT a≤2000)(b:Tm)(wv:PV)(hb:TmP b wv)(sb:shT b=true)(zb:sizT b≤2000)(l:Int)(r:Except Int Bool)(l':Int)(h0:0≤l)(h1:l≤tot)(hx:S ctx a b l=some (r,l')):
  CrB 255 [av,wv,.ci [.ci [.bp 0 0]],.cp [cv]] cs tot l r l':=by
 have hs:=hS ctx cv hc a av ha sa za b wv hb sb zb l r l' h0 h1 hx;obtain⟨b0,z0,xs,rfl,-⟩:=hc;obtain⟨k1,n1,s1,l1,t1,b1,z1,x1,c1,y1,ys1,rfl,rfl,-⟩:=ha.open;obtain⟨k2,n2,s2,l2,t2,b2,z2,x2,c2,y2,ys2,rfl,rfl,-⟩:=hb.open;cases r with
 |error e=>
  have hs:Fr _ _ _ _ _ (.pan (j0f e)) l':=hs;show Fr _ _ _ _ _ (.pan (j0f e)) l'
  refine gR Tryz.func255 ?_;repeat'(first|refine gW hs ?_)<;>conv=>whnf
  all_goals exact gJ
 |ok q=>
  have hs:Fr _ _ _ _ _ (.ret [bv q]) l':=hs;show Fr _ _ _ _ _ (.ret [bv q]) l'
  refine gR Tryz.func255 ?_;repeat'(first|refine gU ?_|refine gW hs ?_)<;>conv=>whnf
  all_goals exact gJ
def jnM{S:Tm→Tm→M Bool}{x y:List Tm}{a b:Tm}(ha:x[i]?=some a)(hb:y[i]?=some b):j7J S (x.drop i) (y.drop i)=bnd (S a b) fun q=>match q with
  |true=>j7J S (x.drop (i+1)) (y.drop (i+1))
  |false=>mok false:=by
 rw[drop_at ha,drop_at hb,j7J];rfl
def jnL(hS:j6h cs tot S)(fS:∀c a b,Fine (S c a b))(ctx:List Tm)(cv:PV)(hc:CtxP ctx cv)(x y:List Tm)(b b':Bool)(z z':Nat)(xs ys:List PV)(hz:z=5∨xs=[])(hA:z'=5∨ys=[])(qB:TmsP x xs)(hB:TmsP y ys)(gC:x.length≤2000)(sx:∀t∈x,shT t=true∧sizT t≤2000)(sy:∀t∈y,shT t=true∧sizT t≤2000)
  (l:Int) (r:Except Int Bool) (l':Int) (h0:0≤l) (h1:l≤tot) (hx:jhZ (S ctx) x y l=some (r,l')):CrB 201 [.sl b z xs,.sl b' z' ys,juE cv] cs tot l r l':=by
 have hlen:=qB.len;have wB:=hB.len;have qC:=hc;obtain⟨b0,z0,xs0,rfl,-⟩:=qC;have wA:Finds C1 201 [.sl b z xs,.sl b' z' ys,juE (.sl b0 z0 xs0)] [runB cs tot l] fun r' st'=>st'=[runB cs tot l']∧(match r with
   | .ok q=>r'=.ret [bv q]
   | .error e=>r'=.pan (j0f e)):=by
  refine gR Tryz.func201 ?_
  by_cases hl:x.length=y.length
  ·simp only[jhZ,decide_eq_true hl] at hx;repeat'(first|refine gU ?_|apply gE<;>intro h)<;>conv=>whnf
   rotate_left
   ·exfalso;omega
   refine j04 (G:=Nat×Int) (fun g=>[(17,iv g.1)]) (fun g=>[runB cs tot g.2]) (fun g=>g.1≤x.length∧0≤g.2∧g.2≤tot∧j7J (S ctx) (x.drop g.1) (y.drop g.1) g.2=some (r,l')) (fun g=>x.length-g.1) (0,l) ⟨by omega,h0,h1,hx⟩ rfl rfl ?_
   rintro⟨i,l⟩ ⟨hi,h0,h1,hx⟩;dsimp only at hi h0 h1 hx ⊢
   by_cases hC:i<x.length
   ·obtain⟨tc,gA⟩:∃tc,x[i]?=some tc:=⟨_,AA hC⟩;obtain⟨td,qA⟩:∃td,y[i]?=some td:=⟨_,AA (by omega)⟩
    obtain⟨v,hv,ha⟩:=qB.at gA;obtain⟨w,hw,hb⟩:=hB.at qA;obtain⟨sa,za⟩:=sx _ (AE gA);obtain⟨sb,zb⟩:=sy _ (AE qA);rw[jnM gA qA] at hx;have gB:=fun r l'=>jiP hS ctx _ hc tc v ha sa za td w hb sb zb l r l' h0 h1
    cases ha.c;cases hb.c;rcases j0b hx with⟨e,q1,rfl⟩|⟨q,la,q1,q2⟩
    ·have hf:Fr _ _ _ _ _ (.pan (j0f e)) l':=gB _ _ q1;repeat'(first|refine gU ?_|apply gE<;>intro h|refine VIdx.mk _ hv ?_|refine VIdx.mk _ hw ?_|refine gZ hz ?_|refine gZ hA ?_|refine gW hf ?_)<;>conv=>whnf
     all_goals exact gJ
    ·have hf:Fr _ _ _ _ _ (.ret [bv q]) la:=gB _ _ q1;have hd:=(fS ctx tc td).dn l _ la h0 q1;cases q with
     |false=>
      cases q2;repeat'(first|refine gU ?_|apply gE<;>intro h|refine VIdx.mk _ hv ?_|refine VIdx.mk _ hw ?_|refine gZ hz ?_|refine gZ hA ?_|refine gW hf ?_)<;>conv=>whnf
      all_goals exact gJ
     |true=>
      repeat'(first|refine gU ?_|apply gE<;>intro h|refine VIdx.mk _ hv ?_|refine VIdx.mk _ hw ?_|refine gZ hz ?_|refine gZ hA ?_|refine gW hf ?_)<;>conv=>whnf
      all_goals first|(exfalso;omega)|skip
      exact VAgain.mk _ rfl _ (j0a rfl rfl rfl) ⟨(i+1,la),⟨hC,by dsimp only;omega,by dsimp only;omega,q2⟩,by dsimp only;omega,rfl⟩
   ·have e:x.drop i=[]:=AV (by omega)
    rw[e] at hx;cases hx;repeat'(first|refine gU ?_|apply gE<;>intro h)<;>conv=>whnf
    all_goals exact gJ
  ·simp only[jhZ,decide_eq_false hl] at hx;cases hx;repeat'(first|refine gU ?_|apply gE<;>intro h)<;>conv=>whnf
   all_goals exact gJ
 obtain⟨r',st',⟨rfl,hq⟩,N,hN⟩:=wA;cases r with
 |ok q=>
  obtain rfl:=hq;exact⟨_,_,⟨rfl,rfl⟩,N,hN⟩
 |error e=>
  obtain rfl:=hq;exact⟨_,_,⟨rfl,rfl⟩,N,hN⟩
open Go Go.Am Go.Gw
def jaW{v:PV}(h:TmP t v)(hs:shT t=true)(hz:sizT t≤2000):∃k n s b z xs c y ys ab az axs,Pf C1 168 [v] [.ag [iv k,iv n,sv s,.sl b z xs,.sl c y ys],.sl ab az axs]∧TmP (spF t).1 (.ag [iv k,iv n,sv s,.sl b z xs,.sl c y ys])∧(az=5∨axs=[])∧TmsP (j1i t) axs∧(j1i t).length≤2000∧(∀a∈j1i t,shT a=true∧sizT a≤2000)∧shT (spF t).1=true:=by
 have wA:=ja1 t;obtain⟨qB,hB,hC⟩:=jku t hs;have hS:=jb4 t v h (by omega)
 obtain⟨hA,gA⟩:=jrw t h.w;obtain⟨ab,az,axs,wB,gB,qA⟩:=ja3 (ts:=j1i t) fun a ha=>gA a (j3o.1 ha)
 obtain⟨k,n,s,b,z,xs,c,y,ys,he⟩:=j06 (spF t).1;unfold TmW at hA;rw[he] at hS hA;rw[wB] at hS;refine⟨k,n,s,b,z,xs,c,y,ys,ab,az,axs,hS,hA,gB,qA,by simp[j1i];omega,fun a ha=>?_,qB⟩
 have hm:=j3o.1 ha;have:=wA.2 a hm;exact⟨hB a hm,by omega⟩
def js8(h:shT t=true):t.levels.length≤1000000:=by
 obtain⟨k,n,s,ls,ts⟩:=t;obtain⟨a1,a2,a3,a4,a5,a6⟩:=j0w h;show ls.length≤1000000
 by_cases hk:k=3
 ·have:=a3 hk;omega
 ·have:=a4 hk;unfold j0G at this;split at this<;>omega
def jdO(hS:j6h cs tot S)(fS:∀c a b,Fine (S c a b))(ctx:List Tm)(cv:PV)(hc:CtxP ctx cv)(a:Tm)(av:PV)(ha:TmP a av)(sa:shT a=true)(za:sizT a≤2000)(b:Tm)(wv:PV)(hb:TmP b wv)(sb:shT b=true)(zb:sizT b≤2000)(l:Int)(r:Except Int Bool)(l':Int)(h0:0≤l)(h1:l≤tot)(hx:j4v S ctx a b l=some (r,l')):
  CrB 203 [.ci [.bp 0 0],cv,av,wv] cs tot l r l':=by
 obtain⟨ka,na,s_a,ba,zza,xa,ca,ya,ysa,aba,aza,axa,wA,gD,qB,wB,wC,gC,qA⟩:=jaW ha sa za;obtain⟨kb,nb,s_b,bb,zzb,xb,cb,yb,ysb,abb,azb,axb,gA,qD,hB,gB,kE,qC,hC⟩:=jaW hb sb zb;have hA:=jd8 _ _ gD _ _ qD (js8 qA);have wD:=fun hx=>jnL hS fS ctx cv hc (j1i a) (j1i b) aba abb aza azb axa axb qB hB wB gB wC gC qC l r l' h0 h1 hx
 unfold j4v at hx;have hD:=hc;obtain⟨b0,z0,xs0,rfl,-⟩:=hD;obtain⟨k1,n1,s1,l1,t1,b1,z1,x1,c1,y1,ys1,-,rfl,-⟩:=ha.open;obtain⟨k2,n2,s2,l2,t2,b2,z2,x2,c2,y2,ys2,-,rfl,-⟩:=hb.open;cases hq:ja9 (spF a).1 (spF b).1 with
 |false=>
  rw[hq] at hx hA;cases hx;show Fr _ _ _ _ _ (.ret [bv false]) _
  refine gR Tryz.func203 ?_;repeat'(first|refine gU ?_|refine gX wA ?_|refine gX gA ?_|refine gX hA ?_)<;>conv=>whnf
  all_goals exact gJ
 |true=>
  rw[hq] at hx hA;have hE:=wD hx;cases r with
  |error e=>
   have hE:Fr _ _ _ _ _ (.pan (j0f e)) l':=hE;show Fr _ _ _ _ _ (.pan (j0f e)) l'
   refine gR Tryz.func203 ?_;repeat'(first|refine gU ?_|refine gX wA ?_|refine gX gA ?_|refine gX hA ?_)<;>conv=>whnf
   refine j9i (st1:=[runB cs tot l,.frz [.ci [.bp 0 0]],.frz [.sl b0 z0 xs0],.box 25 [iv k1,iv n1,sv s1,.sl b1 z1 x1,.sl c1 y1 ys1],.box 25 [iv k2,iv n2,sv s2,.sl b2 z2 x2,.sl c2 y2 ys2],.box 25 [iv ka,iv na,sv s_a,.sl ba zza xa,.sl ca ya ysa],.box 25 [iv kb,iv nb,sv s_b,.sl bb zzb xb,.sl cb yb ysb]]) rfl hE rfl rfl rfl rfl rfl rfl ?_;all_goals try conv=>whnf
   all_goals exact gJ
  |ok q=>
   have hE:Fr _ _ _ _ _ (.ret [bv q]) l':=hE;show Fr _ _ _ _ _ (.ret [bv q]) l'
   refine gR Tryz.func203 ?_;repeat'(first|refine gU ?_|refine gX wA ?_|refine gX gA ?_|refine gX hA ?_)<;>conv=>whnf
   refine j9i (st1:=[runB cs tot l,.frz [.ci [.bp 0 0]],.frz [.sl b0 z0 xs0],.box 25 [iv k1,iv n1,sv s1,.sl b1 z1 x1,.sl c1 y1 ys1],.box 25 [iv k2,iv n2,sv s2,.sl b2 z2 x2,.sl c2 y2 ys2],.box 25 [iv ka,iv na,sv s_a,.sl ba zza xa,.sl ca ya ysa],.box 25 [iv kb,iv nb,sv s_b,.sl bb zzb xb,.sl cb yb ysb]]) rfl hE rfl rfl rfl rfl rfl rfl ?_;repeat'(refine gU ?_)<;>conv=>whnf
   all_goals exact gJ
def jbb{k n:Int}{s:List UInt8}{ts:List Tm}(h:i<ts.length):sizT (ts.getD i tz)<sizT (.mk k n s ls ts):=by
 have hm:ts.getD i tz∈ts:=AE (getD_at h);have:∀(ts:List Tm) (t:Tm),t∈ts→sizT t≤j0x ts:=by
  intro ts
  induction ts with
  |nil=>intro t ht;cases ht
  |cons a r ih=>
   intro t ht;rw[j0x];rcases AN.1 ht with rfl|ht
   ·omega
   ·have:=ih t ht;omega
 have:=this ts _ hm;rw[sizT];omega
def jrr:shT (.mk 1 0 [] [] [])=true:=jiO (by omega)
def jnP(hS:j6h cs tot S)(fS:∀c a b,Fine (S c a b))(ctx:List Tm)(cv:PV)(hc:CtxP ctx cv)(a:Tm)(av:PV)(ha:TmP a av)(sa:shT a=true)(za:sizT a≤2000)(b:Tm)(wv:PV)(hb:TmP b wv)(sb:shT b=true)(zb:sizT b≤2000)(l:Int)(r:Except Int Bool)(l':Int)(h0:0≤l)(h1:l≤tot)(hk:a.kind=5)(hx:etaB S ctx a b l=some (r,l')):
  CrB 205 [.ci [.bp 0 0],cv,av,wv] cs tot l r l':=by
 unfold etaB at hx;have wF:=hc;obtain⟨b0,z0,xs0,rfl,-⟩:=wF;obtain⟨k1,n1,s1,l1,t1,b1,z1,x1,c1,y1,ys1,rfl,rfl,-,-,-,-,wB,qB,-⟩:=ha.open;obtain⟨a1,a2,a3,a4,a5,a6⟩:=j0w sa;simp only[Tm.kind] at hk;subst hk;have hlen2:t1.length=2:=by
  have e:j0Y 5=2:=rfl;omega
 obtain⟨v0,qC,wD⟩:=qB.at (getD_at (ts:=t1) (i:=0) (by omega))
 obtain⟨v1,hC,qE⟩:=qB.at (getD_at (ts:=t1) (i:=1) (by omega))
 have m0:t1.getD 0 tz∈t1:=AE (getD_at (by omega))
 have m1:t1.getD 1 tz∈t1:=AE (getD_at (by omega))
 have e0:(Tm.mk 5 n1 s1 l1 t1).arg 0=t1.getD 0 tz:=rfl;have e1:(Tm.mk 5 n1 s1 l1 t1).arg 1=t1.getD 1 tz:=rfl;have sz1:=jbb (k:=5) (n:=n1) (s:=s1) (ls:=l1) (ts:=t1) (i:=1) (by omega)
 rw[e0,e1] at hx;have hL:=jjd b wv hb 1 0;have gB:TmW ((j7D b 1 0).getD tz):=j7M fun x hx=>jjc hb.w hx
 rw[j5W] at hL;have wE:∀x,j7D b 1 0=some x→shT x=true:=fun x hx=>jjb hx
 generalize j7D b 1 0=o at *;cases hb.c;cases wD.c;cases qE.c;unfold TmW at gB;obtain⟨k9,n9,s9,b9,z9,x9,c9,y9,ys9,qF⟩:=j06 (o.getD tz);rw[qF] at hL gB;rcases j0b hx with⟨e,q1,rfl⟩|⟨up,la,q1,q2⟩
 ·obtain⟨rfl,rfl,hB⟩:=j2L o _ gB q1;show Fr _ _ _ _ _ (.pan (j0f 15)) l'
  refine gR Tryz.func205 ?_;repeat'(first|refine gX hL ?_|refine j0F hB rfl rfl ?_)<;>conv=>whnf
  all_goals exact gJ
 obtain⟨rfl,rfl,hG,hB⟩:=j2L o _ gB q1;have kE:TmP up (.ag [iv k9,iv n9,sv s9,.sl b9 z9 x9,.sl c9 y9 ys9]):=gB;rcases j0b q2 with⟨e,q3,rfl⟩|⟨c2',lb,q3,q4⟩
 ·obtain⟨rfl,rfl,hw⟩:=j3p ctx _ hc _ _ wD (a5 _ m0) q3;show Fr _ _ _ _ _ (.pan (j0f 15)) l'
  refine gR Tryz.func205 ?_;repeat'(first|refine gU ?_|refine gX hL ?_|refine gX hB ?_|refine VIdx.mk _ qC ?_|refine VIdx.mk _ hC ?_|refine gZ wB ?_|refine j1s hw fun _=>?_|apply gK)<;>conv=>whnf
  all_goals exact gJ
 obtain⟨rfl,rfl,wc,hE,hw⟩:=j3p ctx _ hc _ _ wD (a5 _ m0) q3;have hD:=hE;obtain⟨b7,z7,x7,rfl,-⟩:=hD;have qA:=jhz 0;have qD:TmP (.mk 1 0 [] [] []) (encT (.mk 1 0 [] [] [])):=jiU (by unfold i64;omega)
 have hF:encT (.mk 1 0 [] [] [])=.ag [iv 1,iv 0,sv [],.sl true 0 [],.sl true 0 []]:=by rw[j2O];rfl
 rw[hF] at qA qD;have hA:=j8r up _ kE [.mk 1 0 [] [] []] true 5 [.ag [iv 1,iv 0,sv [],.sl true 0 [],.sl true 0 []]] (.inl rfl) ⟨_,[],rfl,qD,rfl⟩ (by simp)
 have gA:TmP (appF up [.mk 1 0 [] [] []]) (appV (encT up) [.mk 1 0 [] [] []]):=jhF kE.w (fun x hx=>by rw[BD.1 hx];exact qD.w)
 have gD:shT (appF up [.mk 1 0 [] [] []])=true:=jhE _ _ (wE _ rfl) (fun x hx=>by rw[BD.1 hx];exact jrr)
 obtain⟨ku,nu,su,bu,zu,xu,cu,yu,ysu,kF⟩:=j06 up;rw[kF] at hA gA;obtain⟨k5,n5,s5,b5,z5,x5,c5,y5,ys5,gF⟩:=j8s [.mk 1 0 [] [] []] ku nu su bu zu xu cu yu ysu;rw[gF] at hA gA;generalize appF up [.mk 1 0 [] [] []]=ap at *;have wA:TmP ((some ap).getD tz) (.ag [iv k5,iv n5,sv s5,.sl b5 z5 x5,.sl c5 y5 ys5]):=gA;rcases j0b q4 with⟨e,q5,rfl⟩|⟨u,lc,q5,q6⟩
 ·obtain⟨rfl,rfl,gC⟩:=j2L _ _ wA q5;show Fr _ _ _ _ _ (.pan (j0f 15)) l'
  refine gR Tryz.func205 ?_;repeat'(first|refine gU ?_|refine gX hL ?_|refine gX hB ?_|refine VIdx.mk _ qC ?_|refine VIdx.mk _ hC ?_|refine gZ wB ?_|refine j01 hw fun _=>?_|refine j01 qA fun _=>?_|refine j01 hA fun _=>?_|refine j1s gC fun _=>?_|apply gK)<;>conv=>whnf
  all_goals exact gJ
 obtain⟨rfl,eu,wC,gC⟩:=j2L _ _ wA q5;cases eu;have hs:=hS _ _ hE _ _ qE (a5 _ m1) (by omega) _ _ gA gD wC lc r l' h0 h1 q6
 cases r with
 |error e=>
  have hs:Fr _ _ _ _ _ (.pan (j0f e)) l':=hs;show Fr _ _ _ _ _ (.pan (j0f e)) l'
  refine gR Tryz.func205 ?_;repeat'(first|refine gU ?_|refine gX hL ?_|refine gX hB ?_|refine VIdx.mk _ qC ?_|refine VIdx.mk _ hC ?_|refine gZ wB ?_|refine j01 hw fun _=>?_|refine j01 qA fun _=>?_|refine j01 hA fun _=>?_|refine j01 gC fun _=>?_|refine gW hs ?_|apply gK)<;>conv=>whnf
  all_goals exact gJ
 |ok q=>
  have hs:Fr _ _ _ _ _ (.ret [bv q]) l':=hs;show Fr _ _ _ _ _ (.ret [bv q]) l'
  refine gR Tryz.func205 ?_;repeat'(first|refine gU ?_|refine gX hL ?_|refine gX hB ?_|refine VIdx.mk _ qC ?_|refine VIdx.mk _ hC ?_|refine gZ wB ?_|refine j01 hw fun _=>?_|refine j01 qA fun _=>?_|refine j01 hA fun _=>?_|refine j01 gC fun _=>?_|refine gW hs ?_|apply gK)<;>conv=>whnf
  all_goals exact gJ
open Go Go.Am Go.Gw
def CrB.via{f':FuncId}{args':List PV}{la:Int}{r:Except Int Bool}(h:CrB f args cs tot l r l')(h1:∀e,Fr f args cs tot l (.pan (j0f e)) l'→Fr f' args' cs tot la (.pan (j0f e)) l')(h2:∀q,Fr f args cs tot l (.ret [bv q]) l'→Fr f' args' cs tot la (.ret [bv q]) l'):CrB f' args' cs tot la r l':=by
 cases r with
 |error e=>exact h1 e h
 |ok q=>exact h2 q h
def jew(hS:j6h cs tot S)(fS:∀c a b,Fine (S c a b))(ctx:List Tm)(cv:PV)(hc:CtxP ctx cv)(a:Tm)(av:PV)(ha:TmP a av)(sa:shT a=true)(za:sizT a≤2000)(b:Tm)(wv:PV)(hb:TmP b wv)(sb:shT b=true)(zb:sizT b≤2000)(l:Int)(r:Except Int Bool)(l':Int)(h0:0≤l)(h1:l≤tot)(hk:a.kind=2∧b.kind=2)(hx:j4k S ctx a b l=some (r,l')):
  CrB 147 [.ci [.bp 0 0],cv,av,wv] cs tot l r l':=by
 unfold j4k at hx;rw[if_pos hk] at hx;cases hx;obtain⟨b0,z0,xs0,rfl,-⟩:=hc;obtain⟨k1,n1,s1,l1,t1,b1,z1,x1,c1,y1,ys1,rfl,rfl,qA,hx1,-⟩:=ha.open;obtain⟨k2,n2,s2,l2,t2,b2,z2,x2,c2,y2,ys2,rfl,rfl,hA,gA,-⟩:=hb.open;obtain⟨a1,a2,a3,a4,a5,a6⟩:=j0w sa;obtain⟨d1,d2,d3,d4,d5,d6⟩:=j0w sb;simp only[Tm.kind] at hk;obtain⟨rfl,rfl⟩:=hk;have e:j0G 2=1:=rfl;have wB:l1.length=1:=by
  have:=a4 (by omega)
  omega
 have gB:l2.length=1:=by
  have:=d4 (by omega)
  omega
 obtain⟨v1,hB,hl⟩:=hx1.at (show l1[0]?=some (l1.getD 0 (.mk 0 0 [])) by rw[AQ,AA (by omega)];rfl)
 obtain⟨v2,wA,hm⟩:=gA.at (show l2[0]?=some (l2.getD 0 (.mk 0 0 [])) by rw[AQ,AA (by omega)];rfl)
 have qB:=jfD _ v1 hl _ v2 hm;have e1:(Tm.mk 2 n1 s1 l1 t1).lv=l1.getD 0 (.mk 0 0 []):=rfl;have e2:(Tm.mk 2 n2 s2 l2 t2).lv=l2.getD 0 (.mk 0 0 []):=rfl;rw[e1,e2];cases hl.c;cases hm.c;show Fr _ _ _ _ _ (.ret [bv (jap _ _)]) _
 refine gR Tryz.func147 ?_;repeat'(first|refine gU ?_|refine VIdx.mk _ hB ?_|refine VIdx.mk _ wA ?_|refine gZ qA ?_|refine gZ hA ?_|refine j01 qB fun _=>?_|apply gK)<;>conv=>whnf
 all_goals exact gJ
def jic(hS:j6h cs tot S)(fS:∀c a b,Fine (S c a b))(ctx:List Tm)(cv:PV)(hc:CtxP ctx cv)(a:Tm)(av:PV)(ha:TmP a av)(sa:shT a=true)(za:sizT a≤2000)(b:Tm)(wv:PV)(hb:TmP b wv)(sb:shT b=true)(zb:sizT b≤2000)(l:Int)(r:Except Int Bool)(l':Int)(h0:0≤l)(h1:l≤tot)(hk:a.kind=b.kind∧(a.kind=6∨a.kind=5))(hx:j4k S ctx a b l=some (r,l')):
  CrB 147 [.ci [.bp 0 0],cv,av,wv] cs tot l r l':=by
 unfold j4k at hx;rw[if_neg (by omega),if_pos hk] at hx
 have gD:=hc;obtain⟨b0,z0,xs0,rfl,-⟩:=gD;obtain⟨k1,n1,s1,l1,t1,b1,z1,x1,c1,y1,ys1,rfl,rfl,-,-,-,-,wA,qA,-⟩:=ha.open;obtain⟨k2,n2,s2,l2,t2,b2,z2,x2,c2,y2,ys2,rfl,rfl,-,-,-,-,gA,hA,-⟩:=hb.open;obtain⟨a1,a2,a3,a4,a5,a6⟩:=j0w sa;obtain⟨d1,d2,d3,d4,d5,d6⟩:=j0w sb;simp only[Tm.kind] at hk;obtain⟨rfl,hk⟩:=hk;have wD:j0Y k1=2:=by
  rcases hk with rfl|rfl<;>rfl
 have kE:¬k1=2:=by omega
 have hE:k1=k1:=rfl;obtain⟨v0,qB,gB⟩:=qA.at (getD_at (ts:=t1) (i:=0) (by omega))
 obtain⟨v1,qC,hD⟩:=qA.at (getD_at (ts:=t1) (i:=1) (by omega))
 obtain⟨w0,hB,g0'⟩:=hA.at (getD_at (ts:=t2) (i:=0) (by omega))
 obtain⟨w1,hC,g1'⟩:=hA.at (getD_at (ts:=t2) (i:=1) (by omega))
 have m0:t1.getD 0 tz∈t1:=AE (getD_at (by omega))
 have m1:t1.getD 1 tz∈t1:=AE (getD_at (by omega))
 have q0:t2.getD 0 tz∈t2:=AE (getD_at (by omega))
 have q1:t2.getD 1 tz∈t2:=AE (getD_at (by omega))
 have u0:=jbb (k:=k1) (n:=n1) (s:=s1) (ls:=l1) (ts:=t1) (i:=0) (by omega)
 have u1:=jbb (k:=k1) (n:=n1) (s:=s1) (ls:=l1) (ts:=t1) (i:=1) (by omega)
 have u2:=jbb (k:=k1) (n:=n2) (s:=s2) (ls:=l2) (ts:=t2) (i:=0) (by omega)
 have u3:=jbb (k:=k1) (n:=n2) (s:=s2) (ls:=l2) (ts:=t2) (i:=1) (by omega)
 have e0:(Tm.mk k1 n1 s1 l1 t1).arg 0=t1.getD 0 tz:=rfl;have e1:(Tm.mk k1 n1 s1 l1 t1).arg 1=t1.getD 1 tz:=rfl;have e2:(Tm.mk k1 n2 s2 l2 t2).arg 0=t2.getD 0 tz:=rfl;have e3:(Tm.mk k1 n2 s2 l2 t2).arg 1=t2.getD 1 tz:=rfl;rw[e0,e1,e2,e3] at hx;have wC:=fun l r l' h0 h1=>hS ctx _ hc _ _ gB (a5 _ m0) (by omega) _ _ g0' (d5 _ q0) (by omega) l r l' h0 h1
 have qD:=fun c wc hc l r l' h0 h1=>hS c wc hc _ _ hD (a5 _ m1) (by omega) _ _ g1' (d5 _ q1) (by omega) l r l' h0 h1
 cases gB.c;cases hD.c;cases g0'.c;cases g1'.c;rcases j0b hx with⟨e,p1,rfl⟩|⟨q,la,p1,p2⟩
 ·have hf:Fr _ _ _ _ _ (.pan (j0f e)) l':=wC l _ l' h0 h1 p1;show Fr _ _ _ _ _ (.pan (j0f e)) l'
  refine gR Tryz.func147 ?_;repeat'(first|refine gU ?_|apply gE<;>intro h|refine VIdx.mk _ qB ?_|refine VIdx.mk _ hB ?_|refine gZ wA ?_|refine gZ gA ?_|refine gW hf ?_|apply gK)<;>conv=>whnf
  all_goals exact gJ
 have hf:Fr _ _ _ _ _ (.ret [bv q]) la:=wC l _ la h0 h1 p1;have hd:=(fS ctx _ _).dn l _ la h0 p1;cases q with
 |false=>
  cases p2;show Fr _ _ _ _ _ (.ret [bv false]) _
  refine gR Tryz.func147 ?_;repeat'(first|refine gU ?_|apply gE<;>intro h|refine VIdx.mk _ qB ?_|refine VIdx.mk _ hB ?_|refine gZ wA ?_|refine gZ gA ?_|refine gW hf ?_|apply gK)<;>conv=>whnf
  all_goals exact gJ
 |true=>
  have p2:(bnd (j9k ctx (t1.getD 0 tz)) fun c2=>S c2 (t1.getD 1 tz) (t2.getD 1 tz)) la=some (r,l'):=p2
  rcases j0b p2 with⟨e,p3,rfl⟩|⟨c2',lb,p3,p4⟩
  ·obtain⟨rfl,rfl,hw⟩:=j3p ctx _ hc _ _ gB (a5 _ m0) p3;show Fr _ _ _ _ _ (.pan (j0f 15)) l'
   refine gR Tryz.func147 ?_;repeat'(first|refine gU ?_|apply gE<;>intro h|refine VIdx.mk _ qB ?_|refine VIdx.mk _ hB ?_|refine VIdx.mk _ qC ?_|refine VIdx.mk _ hC ?_|refine gZ wA ?_|refine gZ gA ?_|refine gW hf ?_|refine j1s hw fun _=>?_|apply gK)<;>conv=>whnf
   all_goals exact gJ
  obtain⟨rfl,rfl,wc,gC,hw⟩:=j3p ctx _ hc _ _ gB (a5 _ m0) p3;have wB:=gC;obtain⟨b7,z7,x7,rfl,-⟩:=wB;have hg:=qD _ _ gC lb r l' (by omega) (by omega) p4
  cases r with
  |error e=>
   have hg:Fr _ _ _ _ _ (.pan (j0f e)) l':=hg;show Fr _ _ _ _ _ (.pan (j0f e)) l'
   refine gR Tryz.func147 ?_;repeat'(first|refine gU ?_|apply gE<;>intro h|refine VIdx.mk _ qB ?_|refine VIdx.mk _ hB ?_|refine VIdx.mk _ qC ?_|refine VIdx.mk _ hC ?_|refine gZ wA ?_|refine gZ gA ?_|refine gW hf ?_|refine j01 hw fun _=>?_|refine gW hg ?_|apply gK)<;>conv=>whnf
   all_goals exact gJ
  |ok q=>
   have hg:Fr _ _ _ _ _ (.ret [bv q]) l':=hg;show Fr _ _ _ _ _ (.ret [bv q]) l'
   refine gR Tryz.func147 ?_;repeat'(first|refine gU ?_|apply gE<;>intro h|refine VIdx.mk _ qB ?_|refine VIdx.mk _ hB ?_|refine VIdx.mk _ qC ?_|refine VIdx.mk _ hC ?_|refine gZ wA ?_|refine gZ gA ?_|refine gW hf ?_|refine j01 hw fun _=>?_|refine gW hg ?_|apply gK)<;>conv=>whnf
   all_goals exact gJ
def jgr(hS:j6h cs tot S)(fS:∀c a b,Fine (S c a b))(ctx:List Tm)(cv:PV)(hc:CtxP ctx cv)(a:Tm)(av:PV)(ha:TmP a av)(sa:shT a=true)(za:sizT a≤2000)(b:Tm)(wv:PV)(hb:TmP b wv)(sb:shT b=true)(zb:sizT b≤2000)(l:Int)(r:Except Int Bool)(l':Int)(h0:0≤l)(h1:l≤tot)(hx:j4k S ctx a b l=some (r,l')):
  CrB 147 [.ci [.bp 0 0],cv,av,wv] cs tot l r l':=by
 by_cases c1:a.kind=2∧b.kind=2
 ·exact jew hS fS ctx cv hc a av ha sa za b wv hb sb zb l r l' h0 h1 c1 hx
 by_cases c2:a.kind=b.kind∧(a.kind=6∨a.kind=5)
 ·exact jic hS fS ctx cv hc a av ha sa za b wv hb sb zb l r l' h0 h1 c2 hx
 have qA:=fun hk hx=>jnP hS fS ctx cv hc a av ha sa za b wv hb sb zb l r l' h0 h1 hk hx
 have hA:=fun hk hx=>jnP hS fS ctx cv hc b wv hb sb zb a av ha sa za l r l' h0 h1 hk hx
 have gA:=fun hx=>jdO hS fS ctx cv hc a av ha sa za b wv hb sb zb l r l' h0 h1 hx
 unfold j4k at hx;rw[if_neg c1,if_neg c2] at hx;obtain⟨b0,z0,xs0,rfl,-⟩:=hc;obtain⟨k1,n1,s1,l1,t1,b1,z1,x1,c1',y1,ys1,rfl,rfl,-⟩:=ha.open;obtain⟨k2,n2,s2,l2,t2,b2,z2,x2,c2',y2,ys2,rfl,rfl,-⟩:=hb.open;have k1e:(Tm.mk k1 n1 s1 l1 t1).kind=k1:=rfl;have k2e:(Tm.mk k2 n2 s2 l2 t2).kind=k2:=rfl;rw[k1e] at c1 c2 qA hx;rw[k2e] at c1 c2 hA hx
 by_cases c3:k1=5
 ·rw[if_pos c3] at hx;refine CrB.via (qA c3 hx) (fun e hf=>?_) (fun q hf=>?_)
  ·show Fr _ _ _ _ _ (.pan (j0f e)) l'
   refine gR Tryz.func147 ?_;repeat'(first|refine gU ?_|apply gE<;>intro h|refine gW hf ?_)<;>conv=>whnf
   all_goals exact gJ
  ·show Fr _ _ _ _ _ (.ret [bv q]) l'
   refine gR Tryz.func147 ?_;repeat'(first|refine gU ?_|apply gE<;>intro h|refine gW hf ?_)<;>conv=>whnf
   all_goals exact gJ
 rw[if_neg c3] at hx
 by_cases c4:k2=5
 ·rw[if_pos c4] at hx;refine CrB.via (hA c4 hx) (fun e hf=>?_) (fun q hf=>?_)
  ·show Fr _ _ _ _ _ (.pan (j0f e)) l'
   refine gR Tryz.func147 ?_;repeat'(first|refine gU ?_|apply gE<;>intro h|refine gW hf ?_)<;>conv=>whnf
   all_goals exact gJ
  ·show Fr _ _ _ _ _ (.ret [bv q]) l'
   refine gR Tryz.func147 ?_;repeat'(first|refine gU ?_|apply gE<;>intro h|refine gW hf ?_)<;>conv=>whnf
   all_goals exact gJ
 rw[if_neg c4] at hx;refine CrB.via (gA hx) (fun e hf=>?_) (fun q hf=>?_)
 ·show Fr _ _ _ _ _ (.pan (j0f e)) l'
  refine gR Tryz.func147 ?_;repeat'(first|refine gU ?_|apply gE<;>intro h|refine gW hf ?_)<;>conv=>whnf
  all_goals exact gJ
 ·show Fr _ _ _ _ _ (.ret [bv q]) l'
  refine gR Tryz.func147 ?_;repeat'(first|refine gU ?_|apply gE<;>intro h|refine gW hf ?_)<;>conv=>whnf
  all_goals exact gJ
open Go Go.Am Go.Gw
def j1D(e:Int):Pf C1 140 [j0f e] [iv e]:=by
 refine gR Tryz.func140 ?_;repeat'(first|refine gU ?_|refine VRes.mk _ js2 ?_)<;>conv=>whnf
 all_goals rfl
def j5z:Pf C1 140 [.sc .nilIface] [iv 0]:=by
 refine gR Tryz.func140 ?_;repeat'(first|refine gU ?_|refine VRes.mk _ js1 ?_)<;>conv=>whnf
 all_goals rfl
def CrP(args cs:List PV)(tot l:Int)(r:Except Int (Option Tm))(l':Int):Prop:=match r with
 | .ok (some x)=>shT x=true∧sizT x≤2000∧∃w,TmP x w∧Fr 95 args cs tot l (.ret [w,bv true]) l'
 | .ok none=>∃k n s b z xs c y ys,Fr 95 args cs tot l (.ret [.ag [iv k,iv n,sv s,.sl b z xs,.sl c y ys],bv false]) l'
 | .error e=>Fr 95 args cs tot l (.pan (j0f e)) l'
def jkf(ht:tot≤1048576)(hW:WOk cs tot W)(hT:jcG cs tot T)(fW:∀t,Fine (W t))(fT:∀c t,Fine (T c t))(ctx:List Tm)(cv:PV)(hc:CtxP ctx cv)(t:Tm)(v:PV)(h:TmP t v)(hs:shT t=true)(l:Int)(r:Except Int (Option Tm))(l':Int)(h0:0≤l)(h1:l≤tot)(hx:jc1 W T ctx t l=some (r,l')):CrP [.ci [.bp 0 0],cv,v] cs tot l r l':=by
 have wB:=jg3 ht hW hT fW fT;have hC:=hc;obtain⟨b,z,xs,rfl,-⟩:=hC;have h':=h;obtain⟨k1,n1,s1,l1,t1,b1,z1,x1,c1,y1,ys1,-,rfl,-⟩:=h'.open;unfold jc1 jsh at hx;have qA:∀e,(bnd j6c fun _=>bnd (T ctx t) fun ty=>bnd (sortB W T ctx ty) fun s=>mok (match ja7 s with
   |true=>some ty
   |false=>none)) l=some (.error e,l')→∀(hq:(e=22∨e=15)∨¬(e=22∨e=15)),CrP [.ci [.bp 0 0],.sl b z xs,.ag [iv k1,iv n1,sv s1,.sl b1 z1 x1,.sl c1 y1 ys1]] cs tot l (match decide (e=22)||decide (e=15) with
   |true=>.error e
   |false=>.ok none) l':=by
  intro e hy hq;have qC:¬e=0:=fun e0=>by
   subst e0;exact(j08 j4j fun _=>j08 (fT ctx t) fun ty=>j08 (j3t fW fT ctx ty) fun s=>j0r _).nz _ _ hy
  rcases j0b hy with⟨e,q1,e1⟩|⟨u0,la,q1,q2⟩
  ·cases e1;rcases j1l q1 with⟨a1,a2,a3⟩|⟨a1,a2,a3⟩
   ·cases a3
   ·cases a3;subst a2;have hk:=jaH cs tot l' a1;show Fr _ _ _ _ _ (.pan (j0f 22)) l'
    refine j0S Tryz.func95 rfl rfl rfl ?_;repeat'(first|refine gW hk ?_)<;>conv=>whnf
    refine⟨_,_,_,_,_,_,rfl,rfl,rfl,rfl,?_⟩;repeat'(first|refine gU ?_|refine gX (j1D _) ?_)<;>conv=>whnf
    all_goals exact gJ
  rcases j1l q1 with⟨a1,a2,a3⟩|⟨a1,a2,a3⟩
  rotate_left
  ·cases a3
  subst a2;have hk:=j8x cs tot l a1 h1 ht;rcases j0b q2 with⟨e,q3,e1⟩|⟨y,lb,q3,q4⟩
  ·cases e1;obtain⟨-,hf⟩:=hT ctx _ hc t _ h hs (l-1) _ l' (by omega) (by omega) q3
   have hf:Fr _ _ _ _ _ (.pan (j0f e)) l':=hf;rcases hq with hq|hq
   ·have e2:(decide (e=22)||decide (e=15))=true:=by simpa using hq
    rw[e2];show Fr _ _ _ _ _ (.pan (j0f e)) l'
    refine j0S Tryz.func95 rfl rfl rfl ?_;repeat'(first|refine gW hk ?_|refine gW hf ?_)<;>conv=>whnf
    refine⟨_,_,_,_,_,_,rfl,rfl,rfl,rfl,?_⟩;repeat'(first|refine gU ?_|apply gE<;>intro h|refine gX (j1D _) ?_)<;>conv=>whnf
    all_goals exact gJ
   ·have e2:(decide (e=22)||decide (e=15))=false:=by simpa using hq
    rw[e2];refine⟨0,0,[],true,0,[],true,0,[],?_⟩;refine j0S Tryz.func95 rfl rfl rfl ?_;repeat'(first|refine gW hk ?_|refine gW hf ?_)<;>conv=>whnf
    refine⟨_,_,_,_,_,_,rfl,rfl,rfl,rfl,?_⟩;repeat'(first|refine gU ?_|apply gE<;>intro h|refine gX (j1D _) ?_)<;>conv=>whnf
    all_goals exact gJ
  obtain⟨wA,wy,hA,hf⟩:=hT ctx _ hc t _ h hs (l-1) _ lb (by omega) (by omega) q3
  obtain⟨gA,qB⟩:=wA y rfl;have hd:=(fT ctx t).dn (l-1) _ lb (by omega) q3
  rcases j0b q4 with⟨e,q5,e1⟩|⟨s,lc,q5,q6⟩
  ·cases e1;have hg:Fr _ _ _ _ _ (.pan (j0f e)) l':=wB ctx _ hc y _ hA gA lb _ l' (by omega) (by omega) q5
   cases hA.c;rcases hq with hq|hq
   ·have e2:(decide (e=22)||decide (e=15))=true:=by simpa using hq
    rw[e2];show Fr _ _ _ _ _ (.pan (j0f e)) l'
    refine j0S Tryz.func95 rfl rfl rfl ?_;repeat'(first|refine gU ?_|refine gW hk ?_|refine gW hf ?_|refine gW hg ?_|apply gK)<;>conv=>whnf
    refine⟨_,_,_,_,_,_,rfl,rfl,rfl,rfl,?_⟩;repeat'(first|refine gU ?_|apply gE<;>intro h|refine gX (j1D _) ?_)<;>conv=>whnf
    all_goals exact gJ
   ·have e2:(decide (e=22)||decide (e=15))=false:=by simpa using hq
    rw[e2];refine⟨0,0,[],true,0,[],true,0,[],?_⟩;refine j0S Tryz.func95 rfl rfl rfl ?_;repeat'(first|refine gU ?_|refine gW hk ?_|refine gW hf ?_|refine gW hg ?_|apply gK)<;>conv=>whnf
    refine⟨_,_,_,_,_,_,rfl,rfl,rfl,rfl,?_⟩;repeat'(first|refine gU ?_|apply gE<;>intro h|refine gX (j1D _) ?_)<;>conv=>whnf
    all_goals exact gJ
  ·cases q6
 rcases j4d hx with⟨o,hy,rfl⟩|⟨e,he,hy,rfl⟩|⟨e,he,hy,rfl⟩
 ·rcases j0b hy with⟨e,q1,e1⟩|⟨u0,la,q1,q2⟩
  ·cases e1
  rcases j1l q1 with⟨a1,a2,a3⟩|⟨a1,a2,a3⟩
  rotate_left
  ·cases a3
  subst a2;have hk:=j8x cs tot l a1 h1 ht;rcases j0b q2 with⟨e,q3,e1⟩|⟨y,lb,q3,q4⟩
  ·cases e1
  obtain⟨wA,wy,hA,hf⟩:=hT ctx _ hc t _ h hs (l-1) _ lb (by omega) (by omega) q3
  obtain⟨gA,qB⟩:=wA y rfl;have hd:=(fT ctx t).dn (l-1) _ lb (by omega) q3
  rcases j0b q4 with⟨e,q5,e1⟩|⟨s,lc,q5,q6⟩
  ·cases e1
  obtain⟨wl,gB,hg⟩:=wB ctx _ hc y _ hA gA lb _ lc (by omega) (by omega) q5
  have hz:=jaA s wl gB;obtain⟨k2,n2,s2,l2,t2,b2,z2,x2,c2,y2,ys2,-,rfl,-⟩:=hA.open;cases gB.c;cases hB:ja7 s with
  |true=>
   rw[hB] at q6 hz;cases q6;refine⟨gA,qB,_,hA,?_⟩;refine j0S Tryz.func95 rfl rfl rfl ?_;repeat'(first|refine gU ?_|refine gW hk ?_|refine gW hf ?_|refine gW hg ?_|refine j01 hz fun _=>?_|apply gK)<;>conv=>whnf
   refine⟨_,_,_,_,_,_,rfl,rfl,rfl,rfl,?_⟩;repeat'(first|refine gU ?_|refine gX j5z ?_)<;>conv=>whnf
   all_goals exact gJ
  |false=>
   rw[hB] at q6 hz;cases q6;refine⟨k2,n2,s2,b2,z2,x2,c2,y2,ys2,?_⟩
   ·refine j0S Tryz.func95 rfl rfl rfl ?_;repeat'(first|refine gU ?_|refine gW hk ?_|refine gW hf ?_|refine gW hg ?_|refine j01 hz fun _=>?_|apply gK)<;>conv=>whnf
    refine⟨_,_,_,_,_,_,rfl,rfl,rfl,rfl,?_⟩;repeat'(first|refine gU ?_|refine gX j5z ?_)<;>conv=>whnf
    all_goals exact gJ
 ·have:=qA e hy (.inl he);have e2:(decide (e=22)||decide (e=15))=true:=by simpa using he
  rw[e2] at this;exact this
 ·have:=qA e hy (.inr he);have e2:(decide (e=22)||decide (e=15))=false:=by simpa using he
  rw[e2] at this;exact this
open Go Go.Am Go.Gw
def jdE(ht:tot≤1048576)(hW:WOk cs tot W)(hT:jcG cs tot T)(fW:∀t,Fine (W t))(fT:∀c t,Fine (T c t))(hS:j6h cs tot S)(fS:∀c a b,Fine (S c a b))(ctx:List Tm)(cv:PV)(hc:CtxP ctx cv)(a:Tm)(av:PV)(ha:TmP a av)(sa:shT a=true)(za:sizT a≤2000)(b:Tm)(wv:PV)(hb:TmP b wv)(sb:shT b=true)(zb:sizT b≤2000)(l:Int)(r:Except Int Bool)(l':Int)(h0:0≤l)(h1:l≤tot)(hx:j2U W T S ctx a b l=some (r,l')):
  CrB 148 [.ci [.bp 0 0],cv,av,wv] cs tot l r l':=by
 unfold j2U at hx;have fP:=j6C fW fT;have wA:=fun r l' hx=>jkf ht hW hT fW fT ctx cv hc a av ha sa l r l' h0 h1 hx
 have gA:=fun l h0 h1 r l' hx=>jkf ht hW hT fW fT ctx cv hc b wv hb sb l r l' h0 h1 hx
 have gB:=fun p pv hp sp zp q qv hq sq zq l h0 h1 hx=>hS ctx cv hc p pv hp sp zp q qv hq sq zq l r l' h0 h1 hx
 obtain⟨b0,z0,xs0,rfl,-⟩:=hc;cases ha.c;cases hb.c;rcases j0b hx with⟨e,p1,rfl⟩|⟨o,la,p1,p2⟩
 ·have hf:Fr _ _ _ _ _ (.pan (j0f e)) l':=wA _ _ p1;show Fr _ _ _ _ _ (.pan (j0f e)) l'
  refine gR Tryz.func148 ?_;repeat'(first|refine gW hf ?_)<;>conv=>whnf
  all_goals exact gJ
 have hd:=(fP ctx a).dn l _ la h0 p1;cases o with
 |none=>
  cases p2;obtain⟨k3,n3,s3,b3,z3,x3,c3,y3,ys3,hf⟩:=wA _ _ p1;show Fr _ _ _ _ _ (.ret [bv false]) _
  refine gR Tryz.func148 ?_;repeat'(first|refine gU ?_|refine gW hf ?_)<;>conv=>whnf
  all_goals exact gJ
 |some p=>
  obtain⟨sp,zp,wp,qB,hf⟩:=wA _ _ p1;have qA:=qB;cases qA.c;have p2:(bnd (jc1 W T ctx b) fun q=>match q with
   |none=>mok false
   |some q=>S ctx p q) la=some (r,l'):=p2
  rcases j0b p2 with⟨e,p3,rfl⟩|⟨o,lb,p3,p4⟩
  ·have hg:Fr _ _ _ _ _ (.pan (j0f e)) l':=gA la (by omega) (by omega) _ _ p3
   show Fr _ _ _ _ _ (.pan (j0f e)) l'
   refine gR Tryz.func148 ?_;repeat'(first|refine gU ?_|refine gW hf ?_|refine gW hg ?_)<;>conv=>whnf
   all_goals exact gJ
  have wB:=(fP ctx b).dn la _ lb (by omega) p3
  cases o with
  |none=>
   cases p4;obtain⟨k4,n4,s4,b4,z4,x4,c4,y4,ys4,hg⟩:=gA la (by omega) (by omega) _ _ p3
   show Fr _ _ _ _ _ (.ret [bv false]) _
   refine gR Tryz.func148 ?_;repeat'(first|refine gU ?_|refine gW hf ?_|refine gW hg ?_)<;>conv=>whnf
   all_goals exact gJ
  |some q=>
   obtain⟨sq,zq,wq,hB,hg⟩:=gA la (by omega) (by omega) _ _ p3
   have hA:=hB;cases hA.c;refine CrB.via (gB p _ qB sp zp q _ hB sq zq lb (by omega) (by omega) p4) (fun e hh=>?_) (fun q hh=>?_)
   ·refine gR Tryz.func148 ?_;repeat'(first|refine gU ?_|refine gW hf ?_|refine gW hg ?_|refine gW hh ?_)<;>conv=>whnf
    all_goals exact gJ
   ·refine gR Tryz.func148 ?_;repeat'(first|refine gU ?_|refine gW hf ?_|refine gW hg ?_|refine gW hh ?_)<;>conv=>whnf
    all_goals exact gJ
def CrZ(args cs:List PV)(tot l:Int)(q:Bool)(r:Except Int Bool)(l':Int):Prop:=match r with
 | .ok p=>Fr 145 args cs tot l (.ret [bv q,bv p]) l'
 | .error e=>Fr 145 args cs tot l (.pan (j0f e)) l'
def jjV(hS:j6h cs tot S)(fS:∀c a b,Fine (S c a b))(ctx:List Tm)(cv:PV)(hc:CtxP ctx cv)(a:Tm)(av:PV)(ha:TmP a av)(sa:shT a=true)(za:sizT a≤2000)(b:Tm)(wv:PV)(hb:TmP b wv)(sb:shT b=true)(zb:sizT b≤2000)(l:Int)(r:Except Int Bool)(l':Int)(h0:0≤l)(h1:l≤tot)(hx:j8L S ctx a b l=some (r,l')):
  CrZ [.ci [.bp 0 0],cv,av,wv] cs tot l (j4O a b) r l':=by
 have wB:=fun hx=>jdO hS fS ctx cv hc a av ha sa za b wv hb sb zb l r l' h0 h1 hx
 obtain⟨ka,na,s_a,ba,zza,xa,ca,ya,ysa,aba,aza,axa,qA,hB,gD,gB,qE,hE,wA⟩:=jaW ha sa za;obtain⟨kb,nb,s_b,bb,zzb,xb,cb,yb,ysb,abb,azb,axb,hA,hD,qD,qB,kE,wD,hC⟩:=jaW hb sb zb;have gA:=jd8 _ _ hB _ _ hD (js8 wA);have gC:=gB.len;have qC:=qB.len;have wC:=hB.kind;unfold j8L at hx;have eA:j4O a b=(decide (ka=3)&&(decide (0<axa.length)&&(decide (axa.length=axb.length)&&ja9 (spF a).1 (spF b).1))):=by
  unfold j4O;rw[wC,gC,qC]
 rw[eA] at hx⊢;clear eA;generalize ja9 (spF a).1 (spF b).1=al at *;obtain⟨b0,z0,xs0,rfl,-⟩:=hc;obtain⟨k1,n1,s1,l1,t1,b1,z1,x1,c1,y1,ys1,-,rfl,-⟩:=ha.open;obtain⟨k2,n2,s2,l2,t2,b2,z2,x2,c2,y2,ys2,-,rfl,-⟩:=hb.open
 by_cases c1:ka=3
 rotate_left
 ·have e:(decide (ka=3)&&(decide (0<axa.length)&&(decide (axa.length=axb.length)&&al)))=false:=by simp[c1]
  rw[e] at hx⊢;cases hx;show Fr _ _ _ _ _ (.ret [bv false,bv false]) _
  refine gR Tryz.func145 ?_;repeat'(first|refine gU ?_|refine gX qA ?_|refine gX hA ?_)<;>conv=>whnf
  all_goals first|exact⟨rfl,rfl⟩|(exfalso;simp_all;done)|(exfalso;omega)
 by_cases c2:0<axa.length
 rotate_left
 ·have e:(decide (ka=3)&&(decide (0<axa.length)&&(decide (axa.length=axb.length)&&al)))=false:=by simp[c2]
  rw[e] at hx⊢;cases hx;show Fr _ _ _ _ _ (.ret [bv false,bv false]) _
  refine gR Tryz.func145 ?_;repeat'(first|refine gU ?_|apply gE<;>intro h|apply gM<;>intro h|refine gX qA ?_|refine gX hA ?_|refine gX gA ?_)<;>conv=>whnf
  all_goals first|exact⟨rfl,rfl⟩|(exfalso;simp_all;done)|(exfalso;omega)
 by_cases c3:axa.length=axb.length
 rotate_left
 ·have e:(decide (ka=3)&&(decide (0<axa.length)&&(decide (axa.length=axb.length)&&al)))=false:=by simp[c3]
  rw[e] at hx⊢;cases hx;show Fr _ _ _ _ _ (.ret [bv false,bv false]) _
  refine gR Tryz.func145 ?_;repeat'(first|refine gU ?_|apply gE<;>intro h|apply gM<;>intro h|refine gX qA ?_|refine gX hA ?_|refine gX gA ?_)<;>conv=>whnf
  all_goals first|exact⟨rfl,rfl⟩|(exfalso;simp_all;done)|(exfalso;omega)
 cases al with
 |false=>
  have e:(decide (ka=3)&&(decide (0<axa.length)&&(decide (axa.length=axb.length)&&false)))=false:=by simp
  rw[e] at hx⊢;cases hx;show Fr _ _ _ _ _ (.ret [bv false,bv false]) _
  refine gR Tryz.func145 ?_;repeat'(first|refine gU ?_|apply gE<;>intro h|refine gX qA ?_|refine gX hA ?_|refine gX gA ?_)<;>conv=>whnf
  all_goals first|exact⟨rfl,rfl⟩|(exfalso;simp_all;done)|(exfalso;omega)
 |true=>
  have e:(decide (ka=3)&&(decide (0<axa.length)&&(decide (axa.length=axb.length)&&true)))=true:=by rw[decide_eq_true c1,decide_eq_true c2,decide_eq_true c3];rfl
  rw[e] at hx⊢;have hh:=wB hx;cases r with
  |error e=>
   have hh:Fr _ _ _ _ _ (.pan (j0f e)) l':=hh;show Fr _ _ _ _ _ (.pan (j0f e)) l'
   refine gR Tryz.func145 ?_;repeat'(first|refine gU ?_|apply gE<;>intro h|refine gX qA ?_|refine gX hA ?_|refine gX gA ?_|refine gW hh ?_)<;>conv=>whnf
   all_goals first|exact⟨rfl,rfl⟩|(exfalso;simp_all;done)|(exfalso;omega)
  |ok p=>
   have hh:Fr _ _ _ _ _ (.ret [bv p]) l':=hh;show Fr _ _ _ _ _ (.ret [bv true,bv p]) l'
   refine gR Tryz.func145 ?_;repeat'(first|refine gU ?_|apply gE<;>intro h|refine gX qA ?_|refine gX hA ?_|refine gX gA ?_|refine gW hh ?_)<;>conv=>whnf
   all_goals first|exact⟨rfl,rfl⟩|(exfalso;simp_all;done)|(exfalso;omega)
open Go Go.Am Go.Gw
def and3{q e1 e2:Bool}(a:q=true)(b:e1=true)(c:e2=true):(q&&(e1&&e2))=true:=by rw[a,b,c];rfl
def jpm(ht:tot≤1048576)(hW:WOk cs tot W)(hT:jcG cs tot T)(fW:∀t,Fine (W t))(fT:∀c t,Fine (T c t))(hS:j6h cs tot S)(fS:∀c a b,Fine (S c a b)):j6h cs tot (jiM W T S):=by
 intro ctx cv hc a av ha sa za b wv hb sb zb l r l' h0 h1 hx;have gD:=hc;obtain⟨b0,z0,xs0,rfl,-⟩:=gD;have hE:=ha;have wD:=hb;cases hE.c;cases wD.c;have hA:false=false:=rfl;unfold jiM at hx;rcases j0b hx with⟨e,q1,rfl⟩|⟨u0,la,q1,q2⟩
 ·rcases j1l q1 with⟨a1,a2,a3⟩|⟨a1,a2,a3⟩
  ·cases a3
  ·cases a3;subst a2;have hk:=jaH cs tot l' a1;show Fr _ _ _ _ _ (.pan (j0f 22)) l'
   refine gR Tryz.func89 ?_;repeat'(first|refine gW hk ?_)<;>conv=>whnf
   all_goals first|exact⟨rfl,rfl⟩|(exfalso;omega)|exact absurd ((and3 (by assumption) (by assumption) (by assumption)).symm.trans hA) (by simp)
 rcases j1l q1 with⟨a1,a2,a3⟩|⟨a1,a2,a3⟩
 rotate_left
 ·cases a3
 subst a2;have hk:=j8x cs tot l a1 h1 ht;have qA:=j8l a _ ha b _ hb;cases wC:eqTm a b with
 |true=>
  rw[wC] at q2 qA;cases q2;show Fr _ _ _ _ _ (.ret [bv true]) _
  refine gR Tryz.func89 ?_;repeat'(first|refine gU ?_|refine gW hk ?_|refine gX qA ?_)<;>conv=>whnf
  all_goals first|exact⟨rfl,rfl⟩|(exfalso;omega)|exact absurd ((and3 (by assumption) (by assumption) (by assumption)).symm.trans hA) (by simp)
 |false=>
 rw[wC] at q2 qA;have q2:(bnd (j8L S ctx a b) fun ok=>match ok with
  |true=>mok true
  |false=>bnd (W a) fun x=>bnd (W b) fun y=>bnd (j3O S ctx a b x y) fun q=>match q with
   |true=>mok true
   |false=>j2U W T S ctx x y) (l-1)=some (r,l'):=q2
 have flz:Fine (j8L S ctx a b):=by
  unfold j8L;split
  ·exact j5M fS _ _ _
  ·exact j0r _
 rcases j0b q2 with⟨e,q3,rfl⟩|⟨ok,lb,q3,q4⟩
 ·have hz:Fr _ _ _ _ _ (.pan (j0f e)) l':=jjV hS fS ctx _ hc a _ ha sa za b _ hb sb zb (l-1) _ l' (by omega) (by omega) q3
  show Fr _ _ _ _ _ (.pan (j0f e)) l'
  refine gR Tryz.func89 ?_;repeat'(first|refine gU ?_|refine gW hk ?_|refine gX qA ?_|refine gW hz ?_)<;>conv=>whnf
  all_goals first|exact⟨rfl,rfl⟩|(exfalso;omega)|exact absurd ((and3 (by assumption) (by assumption) (by assumption)).symm.trans hA) (by simp)
 have hz:Fr _ _ _ _ _ (.ret [bv (j4O a b),bv ok]) lb:=jjV hS fS ctx _ hc a _ ha sa za b _ hb sb zb (l-1) _ lb (by omega) (by omega) q3
 have hF:=flz.dn (l-1) _ lb (by omega) q3
 cases ok with
 |true=>
  cases q4;show Fr _ _ _ _ _ (.ret [bv true]) _
  refine gR Tryz.func89 ?_;repeat'(first|refine gU ?_|refine gW hk ?_|refine gX qA ?_|refine gW hz ?_)<;>conv=>whnf
  all_goals first|exact⟨rfl,rfl⟩|(exfalso;omega)|exact absurd ((and3 (by assumption) (by assumption) (by assumption)).symm.trans hA) (by simp)
 |false=>
 have q4:(bnd (W a) fun x=>bnd (W b) fun y=>bnd (j3O S ctx a b x y) fun q=>match q with
   |true=>mok true
   |false=>j2U W T S ctx x y) lb=some (r,l'):=q4
 rcases j0b q4 with⟨e,q5,rfl⟩|⟨x,lc,q5,q6⟩
 ·have gA:Fr _ _ _ _ _ (.pan (j0f e)) l':=(hW a _ ha lb _ l' (by omega) (by omega) q5).2
  show Fr _ _ _ _ _ (.pan (j0f e)) l'
  refine gR Tryz.func89 ?_;repeat'(first|refine gU ?_|refine gW hk ?_|refine gX qA ?_|refine gW hz ?_|refine gW gA ?_|apply gK)<;>conv=>whnf
  all_goals first|exact⟨rfl,rfl⟩|(exfalso;omega)|exact absurd ((and3 (by assumption) (by assumption) (by assumption)).symm.trans hA) (by simp)
 obtain⟨qD,wx,qB,gA⟩:=hW a _ ha lb _ lc (by omega) (by omega) q5
 obtain⟨sx,zx⟩:=qD x rfl;have wE:=(fW a).dn lb _ lc (by omega) q5
 have gC:=qB;cases gC.c;rcases j0b q6 with⟨e,q7,rfl⟩|⟨y,ld,q7,q8⟩
 ·have wA:Fr _ _ _ _ _ (.pan (j0f e)) l':=(hW b _ hb lc _ l' (by omega) (by omega) q7).2
  show Fr _ _ _ _ _ (.pan (j0f e)) l'
  refine gR Tryz.func89 ?_;repeat'(first|refine gU ?_|refine gW hk ?_|refine gX qA ?_|refine gW hz ?_|refine gW gA ?_|refine gW wA ?_|apply gK)<;>conv=>whnf
  all_goals first|exact⟨rfl,rfl⟩|(exfalso;omega)|exact absurd ((and3 (by assumption) (by assumption) (by assumption)).symm.trans hA) (by simp)
 obtain⟨hD,wy,hB,wA⟩:=hW b _ hb lc _ ld (by omega) (by omega) q7
 obtain⟨sy,zy⟩:=hD y rfl;have qE:=(fW b).dn lc _ ld (by omega) q7
 have qC:=hB;cases qC.c;have wB:=j8l a _ ha x _ qB;have gB:=j8l b _ hb y _ hB;cases hA:j4O a b&&(eqTm a x&&eqTm b y) with
 |true=>
  have e0:j3O S ctx a b x y=mok false:=by
   unfold j3O;rw[hA]
  rw[e0] at q8;have q8:j2U W T S ctx x y ld=some (r,l'):=q8;rw[AB,AB] at hA;obtain⟨i1,i2,i3⟩:=hA;have hA:false=false:=rfl;refine CrB.via (jdE ht hW hT fW fT hS fS ctx _ hc x _ qB sx zx y _ hB sy zy ld r l' (by omega) (by omega) q8) (fun e hp=>?_) (fun q hp=>?_)
  ·refine gR Tryz.func89 ?_;repeat'(first|refine gU ?_|refine gW hk ?_|refine gX qA ?_|refine gW hz ?_|refine gW gA ?_|refine gW wA ?_|refine gX wB ?_|refine gX gB ?_|refine gW hp ?_|apply gK)<;>conv=>whnf
   all_goals first|exact⟨rfl,rfl⟩|(exfalso;omega)|exact absurd ((and3 (by assumption) (by assumption) (by assumption)).symm.trans hA) (by simp)
  ·refine gR Tryz.func89 ?_;repeat'(first|refine gU ?_|refine gW hk ?_|refine gX qA ?_|refine gW hz ?_|refine gW gA ?_|refine gW wA ?_|refine gX wB ?_|refine gX gB ?_|refine gW hp ?_|apply gK)<;>conv=>whnf
   all_goals first|exact⟨rfl,rfl⟩|(exfalso;omega)|exact absurd ((and3 (by assumption) (by assumption) (by assumption)).symm.trans hA) (by simp)
 |false=>
  have e0:j3O S ctx a b x y=j4k S ctx x y:=by
   unfold j3O;rw[hA]
  rw[e0] at q8;rcases j0b q8 with⟨e,q9,rfl⟩|⟨fo,le,q9,q10⟩
  ·have hC:Fr _ _ _ _ _ (.pan (j0f e)) l':=jgr hS fS ctx _ hc x _ qB sx zx y _ hB sy zy ld _ l' (by omega) (by omega) q9
   show Fr _ _ _ _ _ (.pan (j0f e)) l'
   refine gR Tryz.func89 ?_;repeat'(first|refine gU ?_|apply gM<;>intro h|refine gW hk ?_|refine gX qA ?_|refine gW hz ?_|refine gW gA ?_|refine gW wA ?_|refine gX wB ?_|refine gX gB ?_|refine gW hC ?_|apply gK)<;>conv=>whnf
   all_goals first|exact⟨rfl,rfl⟩|(exfalso;omega)|exact absurd ((and3 (by assumption) (by assumption) (by assumption)).symm.trans hA) (by simp)
  have hC:Fr _ _ _ _ _ (.ret [bv fo]) le:=jgr hS fS ctx _ hc x _ qB sx zx y _ hB sy zy ld _ le (by omega) (by omega) q9
  have kE:=(j9F fS ctx x y).dn ld _ le (by omega) q9
  cases fo with
  |true=>
   cases q10;show Fr _ _ _ _ _ (.ret [bv true]) _
   refine gR Tryz.func89 ?_;repeat'(first|refine gU ?_|apply gM<;>intro h|refine gW hk ?_|refine gX qA ?_|refine gW hz ?_|refine gW gA ?_|refine gW wA ?_|refine gX wB ?_|refine gX gB ?_|refine gW hC ?_|apply gK)<;>conv=>whnf
   all_goals first|exact⟨rfl,rfl⟩|(exfalso;omega)|exact absurd ((and3 (by assumption) (by assumption) (by assumption)).symm.trans hA) (by simp)
  |false=>
   have q10:j2U W T S ctx x y le=some (r,l'):=q10;refine CrB.via (jdE ht hW hT fW fT hS fS ctx _ hc x _ qB sx zx y _ hB sy zy le r l' (by omega) (by omega) q10) (fun e hp=>?_) (fun q hp=>?_)
   ·refine gR Tryz.func89 ?_;repeat'(first|refine gU ?_|apply gM<;>intro h|refine gW hk ?_|refine gX qA ?_|refine gW hz ?_|refine gW gA ?_|refine gW wA ?_|refine gX wB ?_|refine gX gB ?_|refine gW hC ?_|refine gW hp ?_|apply gK)<;>conv=>whnf
    all_goals first|exact⟨rfl,rfl⟩|(exfalso;omega)|exact absurd ((and3 (by assumption) (by assumption) (by assumption)).symm.trans hA) (by simp)
   ·refine gR Tryz.func89 ?_;repeat'(first|refine gU ?_|apply gM<;>intro h|refine gW hk ?_|refine gX qA ?_|refine gW hz ?_|refine gW gA ?_|refine gW wA ?_|refine gX wB ?_|refine gX gB ?_|refine gW hC ?_|refine gW hp ?_|apply gK)<;>conv=>whnf
    all_goals first|exact⟨rfl,rfl⟩|(exfalso;omega)|exact absurd ((and3 (by assumption) (by assumption) (by assumption)).symm.trans hA) (by simp)
def W_ok(E:Nv)(cs:List PV)(hE:NvP E (.cp cs))(tot:Int)(ht:tot≤1048576)(n:Nat):WOk cs tot (j3M E n):=by
 intro t v h l r l' h0 h1 hx;obtain⟨hs,hf⟩:=j8m E cs hE tot ht n t v h l r l' h0 h1 hx;have qA:=(j0I (E:=E) n t).nz;refine⟨fun x hx=>⟨(hs x hx).1,(hs x hx).2.1⟩,?_⟩
 cases h.c;cases r with
 |error e=>
  have he:¬e=0:=fun e0=>by
   subst e0;exact qA _ _ hx
  have hm:=joR tz (.ag zTm) j7c e he;simp only[errV] at hf;show Fr _ _ _ _ _ (.pan (j0f e)) l'
  refine gR Tryz.func146 ?_;repeat'(first|refine gU ?_|refine gW hf ?_|refine j1s hm fun _=>?_|apply gK)<;>conv=>whnf
  all_goals exact gJ
 |ok x=>
  have hA:=(hs x rfl).2.2;have hm:=joS x _ hA;unfold TmW at hA;simp only[errV] at hf;obtain⟨k9,n9,s9,b9,z9,x9,c9,y9,ys9,gA⟩:=j06 x;rw[gA] at hf hm hA;refine⟨_,hA,?_⟩;refine gR Tryz.func146 ?_;repeat'(first|refine gU ?_|refine gW hf ?_|refine j01 hm fun _=>?_|apply gK)<;>conv=>whnf
  all_goals exact gJ
def T_ok(E:Nv)(cs:List PV)(hE:NvP E (.cp cs))(tot:Int)(ht:tot≤1048576):∀n,jcG cs tot (typF E n)
 |0=>fun _ _ _ _ _ _ _ _ _ _ _ _ h=>by cases h
 |n+1=>jrz ht E hE (j3M E n) (typF E n) (W_ok E cs hE tot ht n) (T_ok E cs hE tot ht n) (j0I n) (j1E n)
def S_ok(E:Nv)(cs:List PV)(hE:NvP E (.cp cs))(tot:Int)(ht:tot≤1048576):∀n,j6h cs tot (j2t E n)
 |0=>fun _ _ _ _ _ _ _ _ _ _ _ _ _ _ _ _ _ _ h=>by cases h
 |n+1=>jpm ht (W_ok E cs hE tot ht n) (T_ok E cs hE tot ht n) (j0I n) (j1E n) (S_ok E cs hE tot ht n) (j3s n)
open Go Go.Am Go.Gw
def ji9(t:Tm)(v:PV)(h:TmP t v)(b:Bool)(z:Nat)(xs:List PV)(n:Nat)(hn:xs.length=n):Pf C1 198 [v,.cp [.sl b z xs]] [bv (!j0s t 4 n)]:=by
 have hr:=j0R t v h 4 n;subst hn;cases h.c;refine gR Tryz.func198 ?_;repeat'(first|refine gU ?_|refine gX hr ?_)<;>conv=>whnf
 all_goals rfl
def jg4{ctx:List Tm}(h:ctx[i]?=some t):ctxF (ctx.drop i) i=(j0s t 4 i&&ctxF (ctx.drop (i+1)) (i+1:Nat)):=by
 rw[drop_at h,ctxF];rfl
def jbe(ctx ts:List Tm)(b:Bool)(z:Nat)(xs:List PV)(hz:z=5∨xs=[])(gA:TmsP ctx xs)(b2:Bool)(z2:Nat)(ys:List PV)(qB:z2=5∨ys=[])(gB:TmsP ts ys)(wB:ctx.length≤1759218604441)(qA:ts.length≤1759218604441):Pf C1 142 [.sl b z xs,.sl b2 z2 ys] [bv (j1G ctx ts)]:=by
 have hlen:=gA.len;have ha:=jfP 198 [.cp [.sl b z xs]] rfl rfl rfl (fun t=>!j0s t 4 ctx.length) ts (fun t _ v hv=>ji9 t v hv b z xs ctx.length hlen) b2 z2 ys qB gB qA
 have he:j1G ctx ts=(decide (ctx.length≤64)&&(ctxF ctx 0 && !(ts.any fun t=>!j0s t 4 ctx.length))):=by
  unfold j1G;congr 2;rw[List.not_any_eq_all_not];simp
 rw[he];refine gR Tryz.func142 ?_;repeat'(first|refine gU ?_|apply gE<;>intro h)<;>conv=>whnf
 ·refine j0O ?_;rw[decide_eq_false (by omega)]
  rfl
 rw[decide_eq_true (by omega:ctx.length≤64)]
 refine j04 (G:=Nat) (fun i=>[(12,iv i)]) (fun _=>_) (fun i=>i≤ctx.length∧ctxF (ctx.drop i) i=ctxF ctx 0) (fun i=>ctx.length-i) 0 ⟨by omega,rfl⟩ rfl rfl ?_
 rintro i ⟨hi,hA⟩;dsimp only at hi hA⊢;repeat'(first|refine gU ?_|apply gE<;>intro h)<;>conv=>whnf
 ·have hB:i<ctx.length:=by omega
  obtain⟨tc,wA⟩:∃tc,ctx[i]?=some tc:=⟨_,AA hB⟩;obtain⟨v,hv,hl⟩:=gA.at wA;have hw:=j0R tc v hl 4 i;cases hl.c;rw[jg4 wA] at hA;repeat'(first|refine gU ?_|apply gM<;>intro h|refine VIdx.mk _ hv ?_|refine gZ hz ?_|refine gX hw ?_)<;>conv=>whnf
  ·have hr:j0s tc 4 i=true:=by assumption
   rw[hr,CG] at hA;exact VAgain.mk _ rfl _ (j0a rfl rfl rfl) ⟨i+1,⟨hB,hA⟩,by omega,rfl⟩
  ·have hr:j0s tc 4 i=false:=by assumption
   rw[hr,CV] at hA;rw[←hA];rfl
 ·have hl:i=ctx.length:=by omega
  subst hl;rw[BU] at hA;refine j7B rfl rfl ha rfl ?_;repeat'(refine gU ?_)<;>conv=>whnf
  refine j0O ?_;rw[←hA];simp[ctxF]
def j1B(h:Fr f args0 cs tot l r l')(hw:handed C1 f args st=some (args,st))(hp:args.all (pur 8)=false)(hπ:(close st 64 (args.flatMap (ids 8)) []).reverse=[i])(hi:args.all (j0e (fun q=>[i].elem q) 8)=true)
  (hf:fetch (fun q=>place q 0 [i]) (fun q=>[i].elem q) st [i]=some [runB cs tot l]) (ha:args.map (j1p (fun q=>place q 0 [i]) 8)=args0) (hb:jbo (fun j=>Nat.blt j 1) r=true) (k:K (j5n (back [i] st.length) r) (st.set i (runB cs tot l'))):VCall C1 f args st K:=by
 refine j0K hw hp hπ hi hf ha (Finds.mono h ?_);rintro _ _ ⟨rfl,rfl⟩;refine j1z ?_ ?_
 ·simp only[AC,AG,AP,hb,CG];rfl
 ·have e:(st.set i (runB cs tot l'))++[]=st.set i (runB cs tot l'):=BF _;rw[←e] at k;exact k
def ja6{st0 st2:Sto}{π:List Nat}(h:Finds C1 f args0 st0 fun r' s'=>r'=r∧s'=st2)(hw:handed C1 f args st=some (args,st))(hp:args.all (pur 8)=false)(hπ:(close st 64 (args.flatMap (ids 8)) []).reverse=π)(hi:args.all (j0e (fun q=>π.elem q) 8)=true)
  (hf:fetch (fun q=>place q 0 π) (fun q=>π.elem q) st π=some st0) (ha:args.map (j1p (fun q=>place q 0 π) 8)=args0) (hb:(jbo (fun j=>Nat.blt j st2.length) r&&st2.all (soIn fun j=>Nat.blt j st2.length))=true) (k:K (j5n (back π st.length) r) (j2s (back π st.length) π st2 st++(st2.drop π.length).map (j4x (back π st.length)))):VCall C1 f args st K:=by
 refine j0K hw hp hπ hi hf ha (Finds.mono h ?_);rintro _ _ ⟨rfl,rfl⟩;exact j1z hb k
def stC(cs:List PV)(tot l:Int)(cv v:PV)(o:SO):Sto:=[.box 28 [.ci [.bp 4 0]],.box 22 [cv],.box 25 v.cells,o,runB cs tot l]
def jrB(cs:List PV)(tot l l':Int)(b:Bool)(z:Nat)(xs:List PV)(t:Tm)(v:PV)(h:TmP t v)(x:Tm)(w:PV)(hw:TmP x w)(hf:Fr 91 [.ci [.bp 0 0],.sl b z xs,v] cs tot l (.ret [w]) l'):Finds C1 90 [.bp 0 0,.bp 1 0,.bp 2 0,.bp 3 0] (stC cs tot l (.sl b z xs) v (.box 25 zTm)) fun r st=>r=.ret []∧st=stC cs tot l' (.sl b z xs) v (.box 25 (encT x).cells):=by
 have ha:=j6p x w hw true 0;obtain⟨k9,n9,s9,b9,z9,x9,c9,y9,ys9,hA⟩:=j06 x;rw[hA] at ha⊢;cases h.c;cases hw.c;refine gR Tryz.func90 ?_;repeat'(first|refine gU ?_|refine j1B (i:=4) hf rfl rfl rfl rfl rfl rfl rfl ?_|refine gX ha ?_)<;>conv=>whnf
 all_goals exact gJ
def jrA(cs:List PV)(tot l l' e:Int)(b:Bool)(z:Nat)(xs:List PV)(t:Tm)(v:PV)(h:TmP t v)(hf:Fr 91 [.ci [.bp 0 0],.sl b z xs,v] cs tot l (.pan (j0f e)) l'):Finds C1 90 [.bp 0 0,.bp 1 0,.bp 2 0,.bp 3 0] (stC cs tot l (.sl b z xs) v (.box 25 zTm)) fun r st=>r=.pan (j0f e)∧st=stC cs tot l' (.sl b z xs) v (.box 25 zTm):=by
 cases h.c;refine gR Tryz.func90 ?_;repeat'(first|refine j1B (i:=4) hf rfl rfl rfl rfl rfl rfl rfl ?_)<;>conv=>whnf
 all_goals exact gJ

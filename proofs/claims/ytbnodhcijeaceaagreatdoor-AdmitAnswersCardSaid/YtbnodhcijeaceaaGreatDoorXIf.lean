/- A term's weak head normal form: find, step, head. -/
import Derived.Test.YtbnodhcijeaceaaGreatDoorXKy
set_option linter.all false
set_option maxHeartbeats 4000000
set_option maxRecDepth 100000
namespace Go.Proofs.YtbnodhcijeaceaaGreatDoor
open Go Go.Am Go.Gw
def jeQ{b:Bool}{A:Prop}:b=true→A→(match b with
  |true=>A
  |false=>False):=by
 intro h a;subst h;exact a
def jlh{ts:List Tm}(h:∀t∈ts,TmW t):∃b z xs,j8y ts=.sl b z xs∧(z=5∨xs=[])∧TmsP ts xs:=ja3 h
def jhs(E:Nv)(cs:List PV)(hE:NvP E (.cp cs))(tot:Int)(hd:Tm→M Tm)(hH:jfB cs tot hd)(t:Tm)(v:PV)(h:TmP t v)(hs:shT t=true)(hsz:sizT t≤2000)(l:Int)(r:Except Int Rdx)(l':Int)(h0:0≤l)(h1:l≤tot)(hx:jax E hd t l=some (r,l')):
  FrR 312 [.bp 0 0,v] cs tot l r l':=by
 have gD:=ja1 t;obtain⟨wA,kE,wD⟩:=jku t hs;have hS:=jb4 t v h (by omega)
 obtain⟨qA,hD⟩:=jrw t h.w;obtain⟨ab,az,axs,wE,gB,hA⟩:=jlh (ts:=j1i t) fun a ha=>hD a (j3o.1 ha)
 have hC:(j1i t).length≤2000:=by simp[j1i];omega
 have hash:∀a∈j1i t,shT a=true:=fun a ha=>kE a (j3o.1 ha)
 have wB:∀a∈j1i t,sizT a≤2000:=fun a ha=>by
  have:=gD.2 a (j3o.1 ha);omega
 rw[wE] at hS;unfold jax at hx;generalize(spF t).1=hh at *;generalize j1i t=args at *;have wC:=hA.len;have gC:=jq9 hh _ qA ab az axs;have qC:=jrP hh _ qA ab az axs;have qB:=fun(hk:hh.kind=5) (hp:¬args.length=0)=>jn5 hh _ qA wA hk args ab az axs gB hA hp hC
 have gA:=fun(hk:hh.kind=7)=>jpX hh _ qA wA hk args ab az axs gB hA hC
 have hB:=fun(hk:hh.kind=3)=>jmD E cs hE tot hd hH hh _ qA wA hk args ab az axs gB hA hC hash wB l r l' h0 h1
 unfold jnS at hx;obtain⟨k2,n2,s2,ls2,ts2⟩:=hh;obtain⟨b2,z2,x2,qE⟩:=j9z ls2;obtain⟨c2,y2,ys2,qD⟩:=j9A ts2;have he:encT (.mk k2 n2 s2 ls2 ts2)=.ag [iv k2,iv n2,sv s2,.sl b2 z2 x2,.sl c2 y2 ys2]:=by rw[j2O,qE,qD]
 rw[he] at hS gC qC qB gA hB;obtain⟨k1,n1,s1,l1,t1,b1,z1,x1,c1,y1,ys1,rfl,rfl,-⟩:=h.open;have ek:(Tm.mk k2 n2 s2 ls2 ts2).kind=k2:=rfl;rw[ek] at qB gA hB hx wD
 by_cases q1:k2=5∧¬args.length=0
 ·rw[if_pos q1] at hx;cases hx;obtain⟨w,ho,hf⟩:=qB q1.1 q1.2;refine⟨.ag [iv 1,.fn 366 [] [.cp (PV.ag [iv k2,iv n2,sv s2,.sl b2 z2 x2,.sl c2 y2 ys2]).cells,.cp [.sl ab az axs]]],⟨by omega,fun y hy=>?_,_,_,w,rfl,ho,rfl,.inl ⟨.inl ⟨_,_,rfl⟩,?_⟩⟩,?_⟩
  ·exact jee hy (fun y hy=>j7j hy) fun a ha=>hash a (EU ha)
  ·rw[j8q];exact hf
  ·refine gR Tryz.func312 ?_;repeat'(first|refine gU ?_|apply gE<;>intro h|refine gX hS ?_|refine gX gC ?_)<;>conv=>whnf
   all_goals exact gJ
 rw[if_neg q1] at hx
 by_cases q2:k2=7
 ·rw[if_pos q2] at hx;cases hx;obtain⟨w,ho,hf⟩:=gA q2;refine⟨.ag [iv 2,.fn 367 [] [.cp (PV.ag [iv k2,iv n2,sv s2,.sl b2 z2 x2,.sl c2 y2 ys2]).cells,.cp [.sl ab az axs]]],⟨by omega,fun y hy=>?_,_,_,w,rfl,ho,rfl,.inl ⟨.inl ⟨_,_,rfl⟩,?_⟩⟩,?_⟩
  ·exact jee hy (fun y hy=>j7j hy) hash
  ·rw[j8q];exact hf
  ·refine gR Tryz.func312 ?_;repeat'(first|refine gU ?_|apply gE<;>intro h|refine gX hS ?_|refine gX qC ?_)<;>conv=>whnf
   all_goals exact gJ
 rw[if_neg q2] at hx
 by_cases q3:k2=3
 ·rw[if_pos q3] at hx;have hc:=hB q3 hx;cases r with
  |error e=>
   have hc:Fr 343 [.bp 0 0,.ag [iv k2,iv n2,sv s2,.sl b2 z2 x2,.sl c2 y2 ys2],.sl ab az axs] cs tot l (.pan (j2c e)) l':=hc;show Fr _ _ _ _ _ (.pan (j2c e)) l'
   refine gR Tryz.func312 ?_;repeat'(first|refine gU ?_|apply gE<;>intro h|refine gX hS ?_|refine gW hc ?_)<;>conv=>whnf
   all_goals exact gJ
  |ok rd=>
   obtain⟨w,hw,hf⟩:=hc;refine⟨w,hw,?_⟩;cases rd with
   |none=>
    obtain rfl:w=.ag [iv 0,.sc .nilFunc]:=hw;refine gR Tryz.func312 ?_;repeat'(first|refine gU ?_|apply gE<;>intro h|refine gX hS ?_|refine gW hf ?_)<;>conv=>whnf
    all_goals exact gJ
   |some p=>
    obtain⟨kk,o⟩:=p;obtain⟨hF,-,g,cl,wo,rfl,ho,kF,⟨⟨a',b',rfl⟩|⟨a',b',c',d',e',f',rfl⟩,-⟩|⟨rfl,⟨a',b',rfl⟩,-⟩⟩:=hw
    ·refine gR Tryz.func312 ?_;repeat'(first|refine gU ?_|apply gE<;>intro h|refine gX hS ?_|refine gW hf ?_)<;>conv=>whnf
     all_goals exact gJ
    ·refine gR Tryz.func312 ?_;repeat'(first|refine gU ?_|apply gE<;>intro h|refine gX hS ?_|refine gW hf ?_)<;>conv=>whnf
     all_goals exact gJ
    ·refine gR Tryz.func312 ?_;repeat'(first|refine gU ?_|apply gE<;>intro h|refine gX hS ?_|refine gW hf ?_)<;>conv=>whnf
     all_goals first|(exfalso;omega)|skip
     refine(show VRet C1 312 1 [.ag [iv kk,.fn 385 [] [.ci [.bp 0 0],.cp a',.cp b']]] [runB cs tot l',.box 25 [iv k1,iv n1,sv s1,.sl b1 z1 x1,.sl c1 y1 ys1],.box 309 [iv kk,.fn 385 [] [.ci [.bp 0 0],.cp a',.cp b']],.box 25 [iv k2,iv n2,sv s2,.sl b2 z2 x2,.sl c2 y2 ys2]] _ from ?_)
     exact jfy rfl rfl rfl rfl ⟨rfl,rfl⟩
 rw[if_neg q3] at hx;cases hx;refine⟨_,j7v cs tot,?_⟩;refine gR Tryz.func312 ?_;repeat'(first|refine gU ?_|apply gE<;>intro h|refine gX hS ?_)<;>conv=>whnf
 all_goals exact gJ
def jfp(E:Nv)(hd:Tm→M Tm)(t:Tm):M (Option (Int×Tm)):=bnd (jax E hd t) fun r=>match r with
 |none=>mok none
 |some (k,o)=>bnd (j8a o) fun x=>mok (some (k,x))
variable{K:AEnd→Sto→Prop}{r:Except Int Tm}{f:FuncId}{l l' tot:Int}{cs:List PV}{cv v:PV}{st:Sto}{x:Tm}
def jlv{E:Nv}{hd:Tm→M Tm}{t:Tm}(h:headB E hd t l=some (r,l')):(∃e,jfp E hd t l=some (.error e,l')∧r=.error e)∨(jfp E hd t l=some (.ok none,l')∧r=.ok t)∨∃k x l1,jfp E hd t l=some (.ok (some (k,x)),l1)∧hd x l1=some (r,l'):=by
 unfold headB at h;rcases j0b h with⟨e,h1,rfl⟩|⟨rd,l1,h1,h2⟩
 ·exact .inl ⟨e,by simp only[jfp,bnd,h1],rfl⟩
 ·match rd with
  |none=>
   cases h2;exact .inr (.inl ⟨by simp only[jfp,bnd,h1,mok],rfl⟩)
  |some (k,o)=>
   rcases j0b h2 with⟨e,h3,rfl⟩|⟨x,l2,h3,h4⟩
   ·exact .inl ⟨e,by simp only[jfp,bnd,h1,h3],rfl⟩
   ·exact .inr (.inr ⟨k,x,l2,by simp only[jfp,bnd,h1,h3,mok],h4⟩)
def FrS(args cs:List PV)(v:PV)(tot l:Int)(r:Except Int (Option (Int×Tm)))(l':Int):Prop:=match r with
 | .ok none=>Fr 277 args cs tot l (.ret [v,iv 0]) l'
 | .ok (some (k,x))=>¬k=0∧shT x=true∧sizT x≤2000∧∃w,TmP x w∧Fr 277 args cs tot l (.ret [w,iv k]) l'
 | .error e=>Fr 277 args cs tot l (.pan (j2c e)) l'
def jtl{o:Option Tm}(h:¬1≤l):j8a o l=some (.error 22,l):=by
 simp only[j8a,bnd,j6c,decide_eq_false h]
def joJ(h:1≤l):j8a none l=some (.error 15,l-1):=by
 simp only[j8a,bnd,j6c,decide_eq_true h,optF,mno]
def jqP(h:1≤l)(hn:¬j0A x≤2000):j8a (some x) l=some (.error 15,l-1):=by
 simp only[j8a,bnd,j6c,decide_eq_true h,optF,mok,j3w,decide_eq_false hn,mno]
def joK(h:1≤l)(hn:j0A x≤2000):j8a (some x) l=some (.ok x,l-1):=by
 simp only[j8a,bnd,j6c,decide_eq_true h,optF,mok,j3w,decide_eq_true hn]
def jrx(E:Nv)(cs:List PV)(hE:NvP E (.cp cs))(tot:Int)(ht:tot≤1048576)(hd:Tm→M Tm)(hF:∀t,Fine (hd t))(hH:jfB cs tot hd)(t:Tm)(v:PV)(h:TmP t v)(hs:shT t=true)(hsz:sizT t≤2000)(l:Int)(r:Except Int (Option (Int×Tm)))(l':Int)(h0:0≤l)(h1:l≤tot)(hx:jfp E hd t l=some (r,l')):
  FrS [.bp 0 0,v] cs v tot l r l':=by
 unfold jfp at hx;rcases j0b hx with⟨e,q1,rfl⟩|⟨rd,l1,q1,q2⟩
 ·have hf:Fr 312 [.bp 0 0,v] cs tot l (.pan (j2c e)) l':=jhs E cs hE tot hd hH t v h hs hsz l _ l' h0 h1 q1;show Fr _ _ _ _ _ (.pan (j2c e)) l'
  obtain⟨k1,n1,s1,l1,t1,b1,z1,x1,c1,y1,ys1,rfl,rfl,-⟩:=h.open;refine gR Tryz.func277 ?_;repeat'(first|refine gW hf ?_)<;>conv=>whnf
  all_goals exact gJ
 ·obtain⟨w,hw,hf⟩:=jhs E cs hE tot hd hH t v h hs hsz l _ l1 h0 h1 q1;obtain⟨gC,qC⟩:=(j8C (E:=E) hF t).dn l _ l1 h0 q1;obtain⟨k1,n1,s1,l1',t1,b1,z1,x1,c1,y1,ys1,rfl,rfl,-⟩:=h.open;match rd with
  |none=>
   cases q2;obtain rfl:w=.ag [iv 0,.sc .nilFunc]:=hw;show Fr _ _ _ _ _ (.ret [_,iv 0]) l'
   refine gR Tryz.func277 ?_;repeat'(first|refine gU ?_|refine gW hf ?_)<;>conv=>whnf
   all_goals exact gJ
  |some (k,o)=>
   obtain⟨hC,gB,g,cl,wo,rfl,⟨⟨k9,n9,s9,b9,z9,x9,c9,y9,ys9,rfl⟩,wB⟩,gA,hA⟩:=hw
   by_cases t1:1≤l1
   ·have qA:=jfn cs tot l1 t1 (by omega) ht
    cases o with
    |none=>
     simp only[bnd,joJ t1] at q2;cases q2;show Fr _ _ _ _ _ (.pan (j2c 15)) (l1-1)
     rcases hA with⟨⟨a,b,rfl⟩|⟨a,b,c,d,e,f,rfl⟩,hc⟩|⟨rfl,⟨a,b,rfl⟩,hc⟩
     ·refine gR Tryz.func277 ?_;repeat'(first|refine gU ?_|refine gW hf ?_|refine gW qA ?_|refine gX (j1m 22) ?_)<;>conv=>whnf
      try refine jeQ gA ?_
      repeat'(first|refine gU ?_|refine gX hc ?_|refine j0F (j4G 15) rfl rfl ?_)<;>conv=>whnf
      all_goals exact gJ
     ·refine gR Tryz.func277 ?_;repeat'(first|refine gU ?_|refine gW hf ?_|refine gW qA ?_|refine gX (j1m 22) ?_)<;>conv=>whnf
      try refine jeQ gA ?_
      repeat'(first|refine gU ?_|refine gX hc ?_|refine j0F (j4G 15) rfl rfl ?_)<;>conv=>whnf
      all_goals exact gJ
     ·refine gR Tryz.func277 ?_;repeat'(first|refine gU ?_|refine gW hf ?_|refine gW qA ?_|refine gX (j1m 22) ?_)<;>conv=>whnf
      try refine jeQ gA ?_
      repeat'(first|refine gU ?_|refine gW (hc _) ?_|refine j0F (j4G 15) rfl rfl ?_)<;>conv=>whnf
      all_goals exact gJ
    |some x=>
     have hB:=wB x rfl
     by_cases n1:j0A x≤2000
     ·have wA:=jpV x _ hB n1;simp only[bnd,joK t1 n1,mok] at q2;cases q2;refine⟨hC,gB x rfl,j3x n1,_,hB,?_⟩;rcases hA with⟨⟨a,b,rfl⟩|⟨a,b,c,d,e,f,rfl⟩,hc⟩|⟨rfl,⟨a,b,rfl⟩,hc⟩
      ·refine gR Tryz.func277 ?_;repeat'(first|refine gU ?_|refine gW hf ?_|refine gW qA ?_|refine gX (j1m 22) ?_)<;>conv=>whnf
       try refine jeQ gA ?_
       repeat'(first|refine gU ?_|refine gX hc ?_|refine gX (j1m 15) ?_|refine j01 wA fun _=>?_|apply gK)<;>conv=>whnf
       all_goals exact gJ
      ·refine gR Tryz.func277 ?_;repeat'(first|refine gU ?_|refine gW hf ?_|refine gW qA ?_|refine gX (j1m 22) ?_)<;>conv=>whnf
       try refine jeQ gA ?_
       repeat'(first|refine gU ?_|refine gX hc ?_|refine gX (j1m 15) ?_|refine j01 wA fun _=>?_|apply gK)<;>conv=>whnf
       all_goals exact gJ
      ·refine gR Tryz.func277 ?_;repeat'(first|refine gU ?_|refine gW hf ?_|refine gW qA ?_|refine gX (j1m 22) ?_)<;>conv=>whnf
       try refine jeQ gA ?_
       repeat'(first|refine gU ?_|refine gW (hc _) ?_|refine gX (j1m 15) ?_|refine j01 wA fun _=>?_|apply gK)<;>conv=>whnf
       all_goals exact gJ
     ·have wA:=jpU x _ hB n1;simp only[bnd,jqP t1 n1] at q2;cases q2;show Fr _ _ _ _ _ (.pan (j2c 15)) (l1-1)
      rcases hA with⟨⟨a,b,rfl⟩|⟨a,b,c,d,e,f,rfl⟩,hc⟩|⟨rfl,⟨a,b,rfl⟩,hc⟩
      ·refine gR Tryz.func277 ?_;repeat'(first|refine gU ?_|refine gW hf ?_|refine gW qA ?_|refine gX (j1m 22) ?_)<;>conv=>whnf
       try refine jeQ gA ?_
       repeat'(first|refine gU ?_|refine gX hc ?_|refine gX (j1m 15) ?_|refine j1s wA fun _=>?_|apply gK)<;>conv=>whnf
       all_goals exact gJ
      ·refine gR Tryz.func277 ?_;repeat'(first|refine gU ?_|refine gW hf ?_|refine gW qA ?_|refine gX (j1m 22) ?_)<;>conv=>whnf
       try refine jeQ gA ?_
       repeat'(first|refine gU ?_|refine gX hc ?_|refine gX (j1m 15) ?_|refine j1s wA fun _=>?_|apply gK)<;>conv=>whnf
       all_goals exact gJ
      ·refine gR Tryz.func277 ?_;repeat'(first|refine gU ?_|refine gW hf ?_|refine gW qA ?_|refine gX (j1m 22) ?_)<;>conv=>whnf
       try refine jeQ gA ?_
       repeat'(first|refine gU ?_|refine gW (hc _) ?_|refine gX (j1m 15) ?_|refine j1s wA fun _=>?_|apply gK)<;>conv=>whnf
       all_goals exact gJ
   ·have qB:=jfm cs tot l1 (by omega)
    simp only[bnd,jtl t1] at q2;cases q2;show Fr _ _ _ _ _ (.pan (j2c 22)) _
    rcases hA with⟨⟨a,b,rfl⟩|⟨a,b,c,d,e,f,rfl⟩,hc⟩|⟨rfl,⟨a,b,rfl⟩,hc⟩
    ·refine gR Tryz.func277 ?_;repeat'(first|refine gU ?_|refine gW hf ?_|refine gW qB ?_|refine j0F (j4G 22) rfl rfl ?_)<;>conv=>whnf
     all_goals exact gJ
    ·refine gR Tryz.func277 ?_;repeat'(first|refine gU ?_|refine gW hf ?_|refine gW qB ?_|refine j0F (j4G 22) rfl rfl ?_)<;>conv=>whnf
     all_goals exact gJ
    ·refine gR Tryz.func277 ?_;repeat'(first|refine gU ?_|refine gW hf ?_|refine gW qB ?_|refine j0F (j4G 22) rfl rfl ?_)<;>conv=>whnf
     all_goals exact gJ
def jqu(E:Nv)(cs:List PV)(hE:NvP E (.cp cs))(tot:Int)(ht:tot≤1048576):∀n,jfB cs tot (j7X E n):=by
 intro n
 induction n using Nat.strongRecOn with
 |_ n ih=>
 intro t v h hs hsz l r l' h0 h1 hx;have wA:Finds C1 236 [.bp 0 0,v] [runB cs tot l] fun r' st'=>st'=[runB cs tot l']∧(match r with
   | .ok x=>shT x=true∧sizT x≤2000∧∃w,TmP x w∧r'=.ret [w]
   | .error e=>r'=.pan (j2c e)):=by
  obtain⟨k1,n1,s1,ls1,t1,b1,z1,x1,c1,y1,ys1,rfl,rfl,-⟩:=h.open;refine gR Tryz.func236 ?_;all_goals try conv=>whnf
  refine j04 (G:=Nat×Tm×List PV×Int) (fun g=>[]) (fun g=>[runB cs tot g.2.2.2,.box 25 g.2.2.1,.box 25 zTm]) (fun g=>g.1≤n∧TmP g.2.1 (.ag g.2.2.1)∧shT g.2.1=true∧sizT g.2.1≤2000∧0≤g.2.2.2∧g.2.2.2≤tot∧j7X E g.1 g.2.1 g.2.2.2=some (r,l')) (fun g=>g.1) (n,_,_,l) ⟨AU n,h,hs,hsz,h0,h1,hx⟩ rfl rfl ?_
  rintro⟨m,t,vs,l⟩ ⟨hm,hT,hs,hsz,h0,h1,hx⟩;dsimp only at hm hT hs hsz h0 h1 hx⊢;cases m with
  |zero=>cases hx
  |succ m=>
   rw[jdn] at hx;have gA:=fun r l'=>jrx E cs hE tot ht (j7X E m) (j6B m) (ih m (by omega)) t _ hT hs hsz l r l' h0 h1
   obtain⟨k2,n2,s2,ls2,t2,b2,z2,x2,c2,y2,ys2,-,hB,-⟩:=hT.open;cases hB;rcases jlv hx with⟨e,q1,rfl⟩|⟨q1,rfl⟩|⟨k,x,l1,q1,q2⟩
   ·have hf:Fr 277 _ cs tot l (.pan (j2c e)) l':=gA _ _ q1;repeat'(first|refine gW hf ?_)<;>conv=>whnf
    all_goals exact gJ
   ·have hf:Fr 277 _ cs tot l (.ret [_,iv 0]) l':=gA _ _ q1;repeat'(first|refine gU ?_|refine gW hf ?_)<;>conv=>whnf
    all_goals exact⟨rfl,hs,hsz,_,hT,rfl⟩
   ·obtain⟨wB,qA,hA,w,hw,hf⟩:=gA _ _ q1;obtain⟨qB,gB⟩:=(j08 (j8C (E:=E) (j6B m) t) (f:=fun r=>match r with
     |none=>mok none
     |some (k,o)=>bnd (j8a o) fun x=>mok (some (k,x))) fun r=>(match r with
     |none=>j0r _
     |some (k,o)=>j08 (jgo o) fun x=>j0r _)).dn l _ l1 h0 q1
    cases hw.c;repeat'(first|refine gU ?_|refine gW hf ?_)<;>conv=>whnf
    exact VAgain.mk _ rfl _ (j0a rfl rfl rfl) ⟨(m,x,_,l1),⟨by dsimp only;omega,hw,qA,hA,qB,by dsimp only;omega,q2⟩,by dsimp only;omega,rfl⟩
 obtain⟨r',st',⟨rfl,hq⟩,N,hN⟩:=wA;cases r with
 |ok x=>
  obtain⟨qA,hA,w,hw,rfl⟩:=hq;exact⟨fun y hy=>(by cases hy;exact⟨qA,hA⟩),w,hw,⟨_,_,⟨rfl,rfl⟩,N,hN⟩⟩
 |error e=>
  obtain rfl:=hq;exact⟨fun y hy=>(by cases hy),⟨_,_,⟨rfl,rfl⟩,N,hN⟩⟩
open Go Go.Am Go.Gw
def js1{x:Nat}:j0i C1.P .eql 20 (.tmp x) (.const .nilIface) (.sc .nilIface) (.sc .nilIface)=some (bv true):=by kernel_rfl
def js2{x y:Operand}{t:TypeId}:j0i C1.P .eql 20 x y (.ifc t v) (.sc .nilIface)=some (bv false):=by kernel_rfl
def jcy(e:Int)(e0:Int):Finds C1 274 [j2c e,.bp 0 0,.bp 1 0] [.box 25 zTm,.box 30 [iv e0]] fun r st=>r=.ret []∧st=[.box 25 zTm,.box 30 [iv e]]:=by
 refine gR Tryz.func274 ?_;repeat'(first|refine gU ?_|refine VRes.mk _ js2 ?_)<;>conv=>whnf
 all_goals first|exact⟨rfl,rfl⟩|trace_state
def jj7(k n:Int)(s:List UInt8)(b:Bool)(z:Nat)(xs:List PV)(c:Bool)(y:Nat)(ys:List PV)(e0:Int):Finds C1 274 [.sc .nilIface,.bp 0 0,.bp 1 0] [.box 25 [iv k,iv n,sv s,.sl b z xs,.sl c y ys],.box 30 [iv e0]] fun r st=>r=.ret []∧st=[.box 25 [iv k,iv n,sv s,.sl b z xs,.sl c y ys],.box 30 [iv e0]]:=by
 refine gR Tryz.func274 ?_;repeat'(first|refine gU ?_|refine VRes.mk _ js1 ?_)<;>conv=>whnf
 all_goals exact gJ
def jrL(cs:List PV)(tot l l':Int)(v:PV)(t:Tm)(h:TmP t v)(x:Tm)(w:PV)(hw:TmP x w)(hf:Fr 236 [.bp 0 0,v] cs tot l (.ret [w]) l'):Fr 235 [v,.ci [.bp 0 0]] cs tot l (.ret [encT x]) l':=by
 have ha:=j6p x w hw true 0;obtain⟨k9,n9,s9,b9,z9,x9,c9,y9,ys9,hA⟩:=j06 x;rw[hA] at ha⊢;obtain⟨k1,n1,s1,l1,t1,b1,z1,x1,c1,y1,ys1,rfl,rfl,-⟩:=h.open;obtain⟨k2,n2,s2,l2,t2,b2,z2,x2,c2,y2,ys2,rfl,rfl,-⟩:=hw.open;refine gR Tryz.func235 ?_;repeat'(first|refine gU ?_|refine gW hf ?_|refine gX ha ?_)<;>conv=>whnf
 all_goals exact gJ
def jrK(cs:List PV)(tot l l':Int)(v:PV)(t:Tm)(h:TmP t v)(e:Int)(hf:Fr 236 [.bp 0 0,v] cs tot l (.pan (j2c e)) l'):Fr 235 [v,.ci [.bp 0 0]] cs tot l (.pan (j2c e)) l':=by
 obtain⟨k1,n1,s1,l1,t1,b1,z1,x1,c1,y1,ys1,rfl,rfl,-⟩:=h.open;refine gR Tryz.func235 ?_;repeat'(first|refine gW hf ?_)<;>conv=>whnf
 all_goals exact gJ
def jrJ:PV:=.fn 235 [] [.ci [.bp 0 0]]
def jcw{g:PV}{i j:Nat}{s1 s2 s1' s2':SO}(h:Finds C1 f [g,.bp 0 0,.bp 1 0] [s1,s2] fun r st=>r=.ret []∧st=[s1',s2'])(hw:handed C1 f [g,.bp i 0,.bp j 0] st=some ([g,.bp i 0,.bp j 0],st))(hπ:(close st 64 ([g,.bp i 0,.bp j 0].flatMap (ids 8)) []).reverse=[i,j])(hi:[g,.bp i 0,.bp j 0].all (j0e (fun q=>[i,j].elem q) 8)=true)
  (hf:fetch (fun q=>place q 0 [i,j]) (fun q=>[i,j].elem q) st [i,j]=some [s1,s2]) (ha:[g,.bp i 0,.bp j 0].map (j1p (fun q=>place q 0 [i,j]) 8)=[g,.bp 0 0,.bp 1 0]) (h1:soIn (fun q=>Nat.blt q 2) s1'=true) (h2:soIn (fun q=>Nat.blt q 2) s2'=true) (k:K (.ret []) (j2s (back [i,j] st.length) [i,j] [s1',s2'] st)):VCall C1 f [g,.bp i 0,.bp j 0] st K:=by
 refine j0K hw (by simp only[BH,show pur 8 (.bp i 0)=false from rfl,CV,FC]) hπ hi hf ha (Finds.mono h ?_)
 rintro _ _ ⟨rfl,rfl⟩;refine j1z ?_ ?_
 ·simp only[AC,AG,BH,FY,h1,h2];rfl
 ·have e:(j2s (back [i,j] st.length) [i,j] [s1',s2'] st)++[]=j2s (back [i,j] st.length) [i,j] [s1',s2'] st:=BF _;rw[←e] at k;exact k
def jrI(cs:List PV)(tot l:Int)(v:PV)(t:Tm)(h:TmP t v)(hp:jbY t=false):Fr 234 [.bp 0 0,v,jrJ] cs tot l (.ret [.ag zTm,iv 10]) l:=by
 obtain⟨b,z,ys,hk⟩:=j6Q t v h;rw[hp] at hk;have hc:=jcy 10 0;obtain⟨k1,n1,s1,l1,t1,b1,z1,x1,c1,y1,ys1,rfl,rfl,-⟩:=h.open;refine j0S Tryz.func234 rfl rfl rfl ?_;repeat'(first|refine gX hk ?_|refine j0F (j4G 10) rfl rfl ?_)<;>conv=>whnf
 refine⟨_,_,_,_,_,_,rfl,rfl,rfl,rfl,?_⟩;repeat'(first|refine gU ?_|refine jcw hc rfl rfl rfl rfl rfl rfl rfl ?_)<;>conv=>whnf
 all_goals exact gJ
def juP(cs:List PV)(tot l l' e:Int)(v:PV)(t:Tm)(h:TmP t v)(hp:jbY t=true)(hf:Fr 235 [v,.ci [.bp 0 0]] cs tot l (.pan (j2c e)) l'):Fr 234 [.bp 0 0,v,jrJ] cs tot l (.ret [.ag zTm,iv e]) l':=by
 obtain⟨b,z,ys,hk⟩:=j6Q t v h;rw[hp] at hk;have hc:=jcy e 0;obtain⟨k1,n1,s1,l1,t1,b1,z1,x1,c1,y1,ys1,rfl,rfl,-⟩:=h.open;refine j0S Tryz.func234 rfl rfl rfl ?_;repeat'(first|refine gX hk ?_|refine gX (j1m 10) ?_|refine gW hf ?_)<;>conv=>whnf
 refine⟨_,_,_,_,_,_,rfl,rfl,rfl,rfl,?_⟩;repeat'(first|refine gU ?_|refine jcw hc rfl rfl rfl rfl rfl rfl rfl ?_)<;>conv=>whnf
 all_goals exact gJ
def juQ(cs:List PV)(tot l l':Int)(v:PV)(t:Tm)(h:TmP t v)(hp:jbY t=true)(x:Tm)(hf:Fr 235 [v,.ci [.bp 0 0]] cs tot l (.ret [encT x]) l'):Fr 234 [.bp 0 0,v,jrJ] cs tot l (.ret [encT x,iv 0]) l':=by
 obtain⟨b,z,ys,hk⟩:=j6Q t v h;rw[hp] at hk;obtain⟨k9,n9,s9,b9,z9,x9,c9,y9,ys9,hA⟩:=j06 x;rw[hA] at hf⊢;have hc:=jj7 k9 n9 s9 b9 z9 x9 c9 y9 ys9 0;obtain⟨k1,n1,s1,l1,t1,b1,z1,x1,c1,y1,ys1,rfl,rfl,-⟩:=h.open;refine j0S Tryz.func234 rfl rfl rfl ?_;repeat'(first|refine gU ?_|refine gX hk ?_|refine gX (j1m 10) ?_|refine gW hf ?_)<;>conv=>whnf
 refine⟨_,_,_,_,_,_,rfl,rfl,rfl,rfl,?_⟩;repeat'(first|refine gU ?_|refine jcw hc rfl rfl rfl rfl rfl rfl rfl ?_)<;>conv=>whnf
 all_goals exact gJ
def j9i{args args':List PV}{r:AEnd}{st1:Sto}(hw:handed C1 f args st=some (args',st1))(h:Fr f args' cs tot l r l')(hp:args'.all (pur 8)=false)(hπ:(close st1 64 (args'.flatMap (ids 8)) []).reverse=[0])(hi:args'.all (j0e (fun i=>[0].elem i) 8)=true)
  (hf:fetch (fun i=>place i 0 [0]) (fun i=>[0].elem i) st1 [0]=some [runB cs tot l]) (ha:args'.map (j1p (fun i=>place i 0 [0]) 8)=args') (hb:jbo (fun j=>Nat.blt j 1) r=true) (k:K (j5n (back [0] st1.length) r) (st1.set 0 (runB cs tot l'))):VCall C1 f args st K:=by
 refine j0K hw hp hπ hi hf ha (Finds.mono h ?_);rintro _ _ ⟨rfl,rfl⟩;refine j1z ?_ ?_
 ·simp only[AC,AG,AP,hb,CG];rfl
 ·have e:(st1.set 0 (runB cs tot l'))++[]=st1.set 0 (runB cs tot l'):=BF _;rw[←e] at k;exact k
def jcz(cs:List PV)(tot l l':Int)(v:PV)(t:Tm)(h:TmP t v)(x:Tm)(e:Int)(hf:Fr 234 [.bp 0 0,v,jrJ] cs tot l (.ret [encT x,iv e]) l'):Fr 178 [.bp 0 0,v] cs tot l (.ret [encT x,iv e]) l':=by
 obtain⟨k9,n9,s9,b9,z9,x9,c9,y9,ys9,hA⟩:=j06 x;rw[hA] at hf⊢;obtain⟨k1,n1,s1,l1,t1,b1,z1,x1,c1,y1,ys1,-,rfl,-⟩:=h.open;refine gR Tryz.func178 ?_;all_goals try conv=>whnf
 refine j9i (st1:=[runB cs tot l,.frz [.bp 0 0],.box 25 [iv k1,iv n1,sv s1,.sl b1 z1 x1,.sl c1 y1 ys1],.box 25 zTm]) rfl hf rfl rfl rfl rfl rfl rfl ?_;repeat'(refine gU ?_)<;>conv=>whnf
 all_goals exact gJ
def j8m(E:Nv)(cs:List PV)(hE:NvP E (.cp cs))(tot:Int)(ht:tot≤1048576)(n:Nat)(t:Tm)(v:PV)(h:TmP t v)(l:Int)(r:Except Int Tm)(l':Int)(h0:0≤l)(h1:l≤tot)(hx:j3M E n t l=some (r,l')):(∀x,r=.ok x→shT x=true∧sizT x≤2000∧TmW x)∧Fr 178 [.bp 0 0,v] cs tot l (.ret (errV r)) l':=by
 unfold j3M at hx;rcases j0b hx with⟨e,q1,rfl⟩|⟨u0,la,q1,q2⟩
 ·obtain⟨rfl,d2⟩:=j1k q1;rcases d2 with⟨-,d2⟩|⟨d1,d2⟩
  ·cases d2
  ·cases d2;exact⟨fun x hx=>(by cases hx),jcz cs tot l' l' v t h tz 10 (jrI cs tot l' v t h d1)⟩
 ·obtain⟨rfl,d2⟩:=j1k q1;rcases d2 with⟨d1,-⟩|⟨-,d2⟩
  rotate_left
  ·cases d2
  have hp:j0s t 4 1099511627776=true:=by
   have:=d1;unfold jbY at this;rw[AB] at this;exact this.1
  obtain⟨hs,hf⟩:=jqu E cs hE tot ht n t v h (j6W hp) (j3x (j3A hp).2.2.1) la r l' h0 h1 q2;cases r with
  |error e=>
   exact⟨fun x hx=>(by cases hx),jcz cs tot la l' v t h tz e (juP cs tot la l' e v t h d1 (jrK cs tot la l' v t h e hf))⟩
  |ok x=>
   obtain⟨w,hw,hf⟩:=hf;refine⟨fun y hy=>?_,jcz cs tot la l' v t h x 0 (juQ cs tot la l' v t h d1 x (jrL cs tot la l' v t h x w hw hf))⟩
   cases hy;exact⟨(hs x rfl).1,(hs x rfl).2,hw.w⟩
open Go Go.Am Go.Gw
def j0f(e:Int):PV:=.ifc 177 (.ag [iv e])
def j2w(e:Int):Pf C1 141 [bv true,iv e] []:=by
 refine gR Tryz.func141 ?_;repeat'(refine gU ?_)<;>conv=>whnf
 all_goals rfl
def j2M(e:Int):Finds C1 141 [bv false,iv e] [] fun r _=>r=.pan (j0f e):=by
 refine gR Tryz.func141 ?_;repeat'(refine gU ?_)<;>conv=>whnf
 all_goals rfl
def joS(t:Tm)(v:PV)(h:TmP t v):Pf C1 154 [v,iv 0] [v]:=by
 obtain⟨k1,n1,s1,l1,t1,b1,z1,x1,c1,y1,ys1,rfl,rfl,-⟩:=h.open;refine gR Tryz.func154 ?_;repeat'(first|refine gU ?_|refine gX (j2w 0) ?_)<;>conv=>whnf
 all_goals first|rfl|(exfalso;omega)
def joR(t:Tm)(v:PV)(h:TmP t v)(e:Int)(he:¬e=0):Finds C1 154 [v,iv e] [] fun r _=>r=.pan (j0f e):=by
 have hn:Finds C1 141 [bv (decide (e=0)),iv e] [] fun r _=>r=.pan (j0f e):=by
  rw[decide_eq_false he];exact j2M e
 obtain⟨k1,n1,s1,l1,t1,b1,z1,x1,c1,y1,ys1,rfl,rfl,-⟩:=h.open;refine gR Tryz.func154 ?_;repeat'(first|refine j0F hn rfl rfl ?_)<;>conv=>whnf
 all_goals rfl
def jt2(t:Tm)(v:PV)(h:TmP t v)(hn:j0A t≤2000):Pf C1 149 [v,bv true] [v]:=by
 have h1:=j2h t v h;have h2:Pf C1 141 [bv (decide (j0A t≤2000)),iv 15] []:=by
  rw[decide_eq_true hn];exact j2w 15
 obtain⟨k1,n1,s1,l1,t1,b1,z1,x1,c1,y1,ys1,rfl,rfl,-⟩:=h.open;refine gR Tryz.func149 ?_;repeat'(first|refine gU ?_|refine gX h1 ?_|refine gX h2 ?_)<;>conv=>whnf
 all_goals rfl
def jqq(t:Tm)(v:PV)(h:TmP t v)(hn:¬j0A t≤2000):Finds C1 149 [v,bv true] [] fun r _=>r=.pan (j0f 15):=by
 have h1:=j2h t v h;have h2:Finds C1 141 [bv (decide (j0A t≤2000)),iv 15] [] fun r _=>r=.pan (j0f 15):=by
  rw[decide_eq_false hn];exact j2M 15
 obtain⟨k1,n1,s1,l1,t1,b1,z1,x1,c1,y1,ys1,rfl,rfl,-⟩:=h.open;refine gR Tryz.func149 ?_;repeat'(first|refine gU ?_|refine gX h1 ?_|refine j0F h2 rfl rfl ?_)<;>conv=>whnf
 all_goals rfl
def jt1(t:Tm)(v:PV)(h:TmP t v):Finds C1 149 [v,bv false] [] fun r _=>r=.pan (j0f 15):=by
 obtain⟨k1,n1,s1,l1,t1,b1,z1,x1,c1,y1,ys1,rfl,rfl,-⟩:=h.open;refine gR Tryz.func149 ?_;repeat'(first|refine gU ?_|refine j0F (j2M 15) rfl rfl ?_)<;>conv=>whnf
 all_goals rfl
def jnv(l:Lv)(v:PV)(h:LvP l v)(hr:j0C l 4=true):Pf C1 152 [v] [v]:=by
 have h1:=j2W l v h 4;rw[hr] at h1;obtain⟨k1,n1,l1,b1,z1,x1,rfl,rfl,-⟩:=h.open;refine gR Tryz.func152 ?_;repeat'(first|refine gU ?_|refine gX h1 ?_|refine gX (j2w 15) ?_)<;>conv=>whnf
 all_goals rfl
def jnu(l:Lv)(v:PV)(h:LvP l v)(hr:j0C l 4=false):Finds C1 152 [v] [] fun r _=>r=.pan (j0f 15):=by
 have h1:=j2W l v h 4;rw[hr] at h1;obtain⟨k1,n1,l1,b1,z1,x1,rfl,rfl,-⟩:=h.open;refine gR Tryz.func152 ?_;repeat'(first|refine gX h1 ?_|refine j0F (j2M 15) rfl rfl ?_)<;>conv=>whnf
 all_goals rfl
def j8x(cs:List PV)(tot l:Int)(h1:1≤l)(h2:l≤tot)(h3:tot≤1048576):Fr 143 [.ci [.bp 0 0]] cs tot l (.ret []) (l-1):=by
 have hs:=jfn cs tot l h1 h2 h3;refine gR Tryz.func143 ?_;repeat'(first|refine gU ?_|refine gW hs ?_|refine gX (j2w 22) ?_)<;>conv=>whnf
 all_goals exact gJ
def jaH(cs:List PV)(tot l:Int)(h1:l<1):Fr 143 [.ci [.bp 0 0]] cs tot l (.pan (j0f 22)) l:=by
 have hs:=jfm cs tot l h1;refine gR Tryz.func143 ?_;repeat'(first|refine gW hs ?_|refine j0F (j2M 22) rfl rfl ?_)<;>conv=>whnf
 all_goals exact gJ
def CtxP(ctx:List Tm)(v:PV):Prop:=∃b z xs,v=.sl b z xs∧(z=5∨(xs=[]∧b=true∧z=0))∧TmsP ctx xs∧ctx.length≤64∧∀t∈ctx,shT t=true
def jtL(ctx:List Tm)(cv:PV)(hc:CtxP ctx cv)(t:Tm)(v:PV)(h:TmP t v)(hs:shT t=true)(hl:ctx.length<64):∃w,CtxP (ctx++[t]) w∧Pf C1 159 [cv,v] [w]:=by
 obtain⟨b,z,xs,rfl,hz,hA,qB,gA⟩:=hc;have hlen:=hA.len;have hn:Pf C1 141 [bv (decide ((xs.length:Int)<64)),iv 15] []:=by
  rw[decide_eq_true (by omega)]
  exact j2w 15
 refine⟨.sl false 5 (xs++[v]),⟨_,_,_,rfl,.inl rfl,hA.append ⟨v,[],rfl,h,rfl⟩,by simp;omega,fun x hx=>?_⟩,?_⟩
 ·rcases BJ.1 hx with hx|hx
  ·exact gA x hx
  ·rw[BD.1 hx];exact hs
 ·have qA:(xs++[v]).all (pur 6)=true:=(hA.append ⟨v,[],rfl,h,rfl⟩:TmsP (ctx++[t]) _).pure6;obtain⟨k1,n1,s1,l1,t1,b1,z1,x1,c1,y1,ys1,rfl,rfl,-⟩:=h.open;have hB:(xs.length.ble xs.length&&Nat.ble 0 xs.length)=true:=by simp
  have wA:Nat.beq xs.length xs.length=true:=by simp
  rcases hz with rfl|⟨rfl,rfl,rfl⟩
  ·refine gR Tryz.func159 ?_;repeat'(first|refine gU ?_|refine gX hn ?_|refine VOk.mk hB ?_|refine VOk.mk wA ?_|refine VOk.mk (j8F (w:=80) (r:=140737488355328) rfl rfl rfl (by simp;omega) (by simp;omega)) ?_)<;>conv=>whnf
   have hx:(xs.take xs.length).drop 0++[.ag [iv k1,iv n1,sv s1,.sl b1 z1 x1,.sl c1 y1 ys1]]=xs++[.ag [iv k1,iv n1,sv s1,.sl b1 z1 x1,.sl c1 y1 ys1]]:=by rw[BT];rfl
   refine j0m rfl (j03 (j0p rfl (by simp) (by rw[←hx] at qA;exact qA)) j0h) rfl ?_
   rw[←hx];rfl
  ·refine gR Tryz.func159 ?_;repeat'(first|refine gU ?_|refine gX hn ?_)<;>conv=>whnf
   exact j0m rfl (j03 (j0p rfl rfl qA) j0h) rfl rfl
def jtK(ctx:List Tm)(cv:PV)(hc:CtxP ctx cv)(t:Tm)(v:PV)(h:TmP t v)(hl:¬ctx.length<64):Finds C1 159 [cv,v] [] fun r _=>r=.pan (j0f 15):=by
 obtain⟨b,z,xs,rfl,hz,hA,gA,qA⟩:=hc;have hlen:=hA.len;have hn:Finds C1 141 [bv (decide ((xs.length:Int)<64)),iv 15] [] fun r _=>r=.pan (j0f 15):=by
  rw[decide_eq_false (by omega)]
  exact j2M 15
 obtain⟨k1,n1,s1,l1,t1,b1,z1,x1,c1,y1,ys1,rfl,rfl,-⟩:=h.open;refine gR Tryz.func159 ?_;repeat'(first|refine j0F hn rfl rfl ?_)<;>conv=>whnf
 all_goals rfl
def j2L(o:Option Tm)(wo:PV)(h:TmP (o.getD tz) wo)(hx:j4W o l=some (r,l')):l'=l∧match r with
  | .ok x=>o=some x∧sizT x≤2000∧Pf C1 149 [wo,bv o.isSome] [wo]
  | .error e=>e=15∧Finds C1 149 [wo,bv o.isSome] [] fun r _=>r=.pan (j0f 15):=by
 cases o with
 |none=>
  cases hx;exact⟨rfl,rfl,jt1 _ _ h⟩
 |some x=>
  simp only[j4W,bnd,optF,mok] at hx
  by_cases hn:j0A x≤2000
  ·rw[decide_eq_true hn] at hx;cases hx;exact⟨rfl,rfl,j3x hn,jt2 _ _ h hn⟩
  ·rw[decide_eq_false hn] at hx;cases hx;exact⟨rfl,rfl,jqq _ _ h hn⟩
def jel(lv:Lv)(v:PV)(h:LvP lv v){r:Except Int Lv}(hx:j6Z lv l=some (r,l')):l'=l∧match r with
  | .ok x=>x=lv∧j0C lv 4=true∧Pf C1 152 [v] [v]
  | .error e=>e=15∧Finds C1 152 [v] [] fun r _=>r=.pan (j0f 15):=by
 unfold j6Z at hx;cases hr:j0C lv 4 with
 |true=>
  rw[hr] at hx;cases hx;exact⟨rfl,rfl,rfl,jnv _ _ h hr⟩
 |false=>
  rw[hr] at hx;cases hx;exact⟨rfl,rfl,jnu _ _ h hr⟩
def j3p(ctx:List Tm)(cv:PV)(hc:CtxP ctx cv)(t:Tm)(v:PV)(h:TmP t v)(hs:shT t=true){r:Except Int (List Tm)}(hx:j9k ctx t l=some (r,l')):l'=l∧match r with
  | .ok c2=>c2=ctx++[t]∧∃w,CtxP c2 w∧Pf C1 159 [cv,v] [w]
  | .error e=>e=15∧Finds C1 159 [cv,v] [] fun r _=>r=.pan (j0f 15):=by
 unfold j9k at hx
 by_cases hl:ctx.length<64
 ·rw[decide_eq_true hl] at hx;cases hx;exact⟨rfl,rfl,jtL _ _ hc _ _ h hs hl⟩
 ·rw[decide_eq_false hl] at hx;cases hx;exact⟨rfl,rfl,jtK _ _ hc _ _ h hl⟩
open Go Go.Am Go.Gw
def CrT(f:FuncId)(args cs:List PV)(tot l:Int)(r:Except Int Tm)(l':Int):Prop:=match r with
 | .ok x=>∃w,TmP x w∧Fr f args cs tot l (.ret [w]) l'
 | .error e=>Fr f args cs tot l (.pan (j0f e)) l'
def CrL(f:FuncId)(args cs:List PV)(tot l:Int)(r:Except Int Lv)(l':Int):Prop:=match r with
 | .ok x=>∃w,LvP x w∧Fr f args cs tot l (.ret [w]) l'
 | .error e=>Fr f args cs tot l (.pan (j0f e)) l'
def WOk(cs:List PV)(tot:Int)(W:Tm→M Tm):Prop:=∀t v,TmP t v→∀l r l',0≤l→l≤tot→W t l=some (r,l')→(∀x,r=.ok x→shT x=true∧sizT x≤2000)∧CrT 146 [.ci [.bp 0 0],v] cs tot l r l'
def jcG(cs:List PV)(tot:Int)(T:List Tm→Tm→M Tm):Prop:=∀ctx cv,CtxP ctx cv→∀t v,TmP t v→shT t=true→∀l r l',0≤l→l≤tot→T ctx t l=some (r,l')→(∀x,r=.ok x→shT x=true∧sizT x≤2000)∧CrT 91 [.ci [.bp 0 0],cv,v] cs tot l r l'
def jrU(cs:List PV)(tot:Int)(T:List Tm→Tm→M Lv):Prop:=∀ctx cv,CtxP ctx cv→∀t v,TmP t v→shT t=true→∀l r l',0≤l→l≤tot→T ctx t l=some (r,l')→CrL 98 [.ci [.bp 0 0],cv,v] cs tot l r l'
def jg3(ht:tot≤1048576){W:Tm→M Tm}{T:List Tm→Tm→M Tm}(hW:WOk cs tot W)(hT:jcG cs tot T)(fW:∀t,Fine (W t))(fT:∀c t,Fine (T c t)):jrU cs tot (sortB W T):=by
 intro ctx cv hc t v h hs l r l' h0 h1 hx;have wB:=hc;obtain⟨b,z,xs,rfl,-⟩:=wB;have h':=h;cases h'.c;unfold sortB at hx;rcases j0b hx with⟨e,q1,rfl⟩|⟨u0,la,q1,q2⟩
 ·rcases j1l q1 with⟨a1,a2,a3⟩|⟨a1,a2,a3⟩
  ·cases a3
  ·cases a3;subst a2;have hk:=jaH cs tot l' a1;show Fr _ _ _ _ _ (.pan (j0f 22)) l'
   refine gR Tryz.func98 ?_;repeat'(first|refine gW hk ?_)<;>conv=>whnf
   all_goals exact gJ
 rcases j1l q1 with⟨a1,a2,a3⟩|⟨a1,a2,a3⟩
 rotate_left
 ·cases a3
 subst a2;have hk:=j8x cs tot l a1 h1 ht;rcases j0b q2 with⟨e,q3,rfl⟩|⟨y,lb,q3,q4⟩
 ·obtain⟨-,hf⟩:=hT ctx _ hc t _ h hs (l-1) _ l' (by omega) (by omega) q3
  have hf:Fr _ _ _ _ _ (.pan (j0f e)) l':=hf;show Fr _ _ _ _ _ (.pan (j0f e)) l'
  refine gR Tryz.func98 ?_;repeat'(first|refine gW hk ?_|refine gW hf ?_)<;>conv=>whnf
  all_goals exact gJ
 obtain⟨hy,wy,qA,hf⟩:=hT ctx _ hc t _ h hs (l-1) _ lb (by omega) (by omega) q3
 have qC:=(fT ctx t).dn (l-1) _ lb (by omega) q3
 cases qA.c;rcases j0b q4 with⟨e,q5,rfl⟩|⟨s,lc,q5,q6⟩
 ·obtain⟨-,hg⟩:=hW y _ qA lb _ l' (by omega) (by omega) q5
  have hg:Fr _ _ _ _ _ (.pan (j0f e)) l':=hg;show Fr _ _ _ _ _ (.pan (j0f e)) l'
  refine gR Tryz.func98 ?_;repeat'(first|refine gW hk ?_|refine gW hf ?_|refine gW hg ?_)<;>conv=>whnf
  all_goals exact gJ
 obtain⟨gB,ws,hB,hg⟩:=hW y _ qA lb _ lc (by omega) (by omega) q5
 obtain⟨k3,n3,s3,l3,t3,b3,z3,x3,c3,y3,ys3,e3,rfl,gA,wA,-⟩:=hB.open;subst e3;have ek:(Tm.mk k3 n3 s3 l3 t3).kind=k3:=rfl;rw[ek] at q6
 by_cases hA:k3=2
 ·rw[decide_eq_true hA] at q6;cases q6;have hC:l3.length=1:=by
   have:=(j0w (gB _ rfl).1).2.2.2.1 (by omega)
   subst hA;have e:j0G 2=1:=rfl;omega
  obtain⟨vl,qB,hl⟩:=wA.at (show l3[0]?=some (l3.getD 0 (.mk 0 0 [])) by rw[AQ,AA (by omega)];rfl)
  refine⟨vl,hl,?_⟩;cases hl.c;have hn:Pf C1 141 [bv (decide (k3=2)),iv 19] []:=by
   rw[decide_eq_true hA];exact j2w 19
  refine gR Tryz.func98 ?_;repeat'(first|refine gU ?_|refine gW hk ?_|refine gW hf ?_|refine gW hg ?_|refine gX hn ?_|refine VIdx.mk _ qB ?_|refine gZ gA ?_)<;>conv=>whnf
  all_goals exact gJ
 ·rw[decide_eq_false hA] at q6;cases q6;have hn:Finds C1 141 [bv (decide (k3=2)),iv 19] [] fun r _=>r=.pan (j0f 19):=by
   rw[decide_eq_false hA];exact j2M 19
  show Fr _ _ _ _ _ (.pan (j0f 19)) _
  refine gR Tryz.func98 ?_;repeat'(first|refine gU ?_|refine gW hk ?_|refine gW hf ?_|refine gW hg ?_|refine j0F hn rfl rfl ?_)<;>conv=>whnf
  all_goals exact gJ
open Go Go.Am Go.Gw
def typK(E:Nv)(W:Tm→M Tm)(T:List Tm→Tm→M Tm)(ctx:List Tm)(t:Tm):M Tm:=
 if t.kind=1 then bnd (j3w (decide (t.num<ctx.length)) 10) fun _=>j4W (j7D (ctx.getD ((ctx.length:Int)-1-t.num).toNat tz) (t.num+1) 0)
 else if t.kind=2 then bnd (j6Z (jiR t.lv)) fun l=>mok (jfi l)
 else if t.kind=3 then exF (typeAt E t.name t.levels)
 else if t.kind=4 then bnd (T ctx (t.arg 0)) fun y=>bnd (W y) fun f=>bnd (j3w (decide (f.kind=6)) 20) fun _=>j4W (InstF (f.arg 1) [t.arg 1])
 else if t.kind=5 then bnd (j9k ctx (t.arg 0)) fun c2=>bnd (T c2 (t.arg 1)) fun b=>j4W (some (overR 6 [t.arg 0] b))
 else if t.kind=6 then bnd (sortB W T ctx (t.arg 0)) fun l=>bnd (j9k ctx (t.arg 0)) fun c2=>bnd (sortB W T c2 (t.arg 1)) fun m=>bnd (j6Z (j9s l m)) fun x=>mok (jfi x)
 else bnd (j4W (InstF (t.arg 2) [t.arg 1])) fun x=>T ctx x
def jtD(E:Nv)(W:Tm→M Tm)(T:List Tm→Tm→M Tm)(ctx:List Tm)(t:Tm):typB E W T ctx t=bnd j6c fun _=>typK E W T ctx t:=rfl
def j5u(cs:List PV)(tot l:Int)(cv v:PV)(r:Except Int Tm)(l':Int):Prop:=(∀x,r=.ok x→shT x=true∧sizT x≤2000)∧CrT 91 [.ci [.bp 0 0],cv,v] cs tot l r l'
def j3a{e:Int}(h:Fr 91 [.ci [.bp 0 0],cv,v] cs tot l (.pan (j0f e)) l'):j5u cs tot l cv v (.error e) l':=⟨fun x hx=>(by cases hx),h⟩
def jiT{w:PV}(h1:shT x=true)(h2:sizT x≤2000)(hw:TmP x w)(h:Fr 91 [.ci [.bp 0 0],cv,v] cs tot l (.ret [w]) l'):j5u cs tot l cv v (.ok x) l':=⟨fun x hx=>(by cases hx;exact⟨h1,h2⟩),w,hw,h⟩
def jmx(E:Nv)(W:Tm→M Tm)(T:List Tm→Tm→M Tm)(ctx:List Tm)(cv:PV)(hc:CtxP ctx cv)(t:Tm)(v:PV)(h:TmP t v)(hs:shT t=true)(l:Int)(hk:Fr 143 [.ci [.bp 0 0]] cs tot l (.ret []) (l-1))(hA:t.kind=1)(r:Except Int Tm)(l':Int)(hx:typK E W T ctx t (l-1)=some (r,l')):j5u cs tot l cv v r l':=by
 unfold typK at hx;rw[if_pos hA] at hx;have wB:=jpq hs hA;have h':=h;obtain⟨k1,n1,s1,l1,t1,b1,z1,x1,c1,y1,ys1,rfl,rfl,-⟩:=h'.open;obtain⟨b,z,xs,rfl,hz,wA,hD,gC⟩:=hc;have hlen:=wA.len;have gA:z=5∨xs=[]:=hz.imp id (·.1)
 simp only[Tm.kind,Tm.num] at hA wB hx;rcases j0b hx with⟨e,q1,rfl⟩|⟨u0,la,q1,q2⟩
 ·obtain⟨rfl,d2⟩:=j1k q1;rcases d2 with⟨-,d2⟩|⟨d1,d2⟩
  ·cases d2
  ·cases d2;have hn:Finds C1 141 [bv (decide (n1<(xs.length:Int))),iv 10] [] fun r _=>r=.pan (j0f 10):=by
    have:=of_decide_eq_false d1;rw[decide_eq_false (by omega)]
    exact j2M 10
   refine j3a ?_;refine gR Tryz.func91 ?_;repeat'(first|refine gU ?_|refine gW hk ?_|refine j0F hn rfl rfl ?_)<;>conv=>whnf
   all_goals exact gJ
 ·obtain⟨rfl,d2⟩:=j1k q1;rcases d2 with⟨d1,-⟩|⟨-,d2⟩
  rotate_left
  ·cases d2
  have wC:=of_decide_eq_true d1;have hn:Pf C1 141 [bv (decide (n1<(xs.length:Int))),iv 10] []:=by
   rw[decide_eq_true (by omega)]
   exact j2w 10
  obtain⟨i,hi⟩:∃i:Nat,(ctx.length:Int)-1-n1=i:=⟨((ctx.length:Int)-1-n1).toNat,by omega⟩
  have hC:i<ctx.length:=by omega
  have ei:((i:Int)).toNat=i:=by simp
  rw[hi,ei] at q2;obtain⟨va,hB,ha⟩:=wA.at (getD_at (ts:=ctx) (i:=i) hC);have hL:=jjd _ va ha (n1+1) 0;have qA:TmW ((j7D (ctx.getD i tz) (n1+1) 0).getD tz):=j7M fun x hx=>jjc ha.w hx
  rw[j5W] at hL;have gB:∀x,j7D (ctx.getD i tz) (n1+1) 0=some x→shT x=true:=fun x hx=>jjb hx
  generalize j7D (ctx.getD i tz) (n1+1) 0=o at *;obtain⟨rfl,hf⟩:=j2L o _ qA q2;have hI:((xs.length:Int)-1-n1)=Int.ofNat i:=by rw[hlen];exact hi
  cases ha.c;unfold TmW at qA;obtain⟨k9,n9,s9,b9,z9,x9,c9,y9,ys9,qC⟩:=j06 (o.getD tz);rw[qC] at hL hf qA;cases r with
  |error e=>
   obtain⟨rfl,hf⟩:=hf;refine j3a ?_;refine gR Tryz.func91 ?_;repeat'(first|refine gU ?_|refine gW hk ?_|refine gX hn ?_|refine VNat.mk i hI ?_|refine VIdx.mk _ hB ?_|refine gZ gA ?_|refine j01 hL fun _=>?_|refine j1s hf fun _=>?_|apply gK)<;>conv=>whnf
   all_goals exact gJ
  |ok x=>
   obtain⟨rfl,qB,hf⟩:=hf;refine jiT (gB _ rfl) qB qA ?_;refine gR Tryz.func91 ?_;repeat'(first|refine gU ?_|refine gW hk ?_|refine gX hn ?_|refine VNat.mk i hI ?_|refine VIdx.mk _ hB ?_|refine gZ gA ?_|refine j01 hL fun _=>?_|refine j01 hf fun _=>?_|apply gK)<;>conv=>whnf
   all_goals exact gJ
open Go Go.Am Go.Gw
def jcc{l:Lv}(h:j0C l 4=true):sizT (jfi l)≤2000:=by
 have h1:j6l l≤64:=by
  simp only[j0C,AB,decide_eq_true_eq] at h;exact h.2.2.1
 rw[j6P] at h1;simp only[jfi,sizT,j0x,j0d];omega
def jfe(l:Lv):shT (jfi l)=true:=jaq (by omega) rfl (by omega) (fun _=>rfl) (by simp) (by omega)
def jiX(E:Nv)(W:Tm→M Tm)(T:List Tm→Tm→M Tm)(ctx:List Tm)(cv:PV)(hc:CtxP ctx cv)(t:Tm)(v:PV)(h:TmP t v)(hs:shT t=true)(l:Int)(hk:Fr 143 [.ci [.bp 0 0]] cs tot l (.ret []) (l-1))(hA:t.kind=2)(r:Except Int Tm)(l':Int)(hx:typK E W T ctx t (l-1)=some (r,l')):j5u cs tot l cv v r l':=by
 unfold typK at hx;rw[if_neg (by omega),if_pos hA] at hx
 have h':=h;have hC:=hc;obtain⟨b,z,xs,rfl,-⟩:=hC;obtain⟨k1,n1,s1,l1,t1,b1,z1,x1,c1,y1,ys1,rfl,rfl,hB,hx1,-,-,qC,wB,-⟩:=h'.open;obtain⟨a1,a2,a3,a4,a5,a6⟩:=j0w hs;simp only[Tm.kind] at hA;subst hA;have gC:l1.length=1:=by
  have:=a4 (by omega)
  have e:j0G 2=1:=rfl;omega
 obtain⟨vl,qB,hl⟩:=hx1.at (show l1[0]?=some (l1.getD 0 (.mk 0 0 [])) by rw[AQ,AA (by omega)];rfl)
 have e0:(Tm.mk 2 n1 s1 l1 t1).lv=l1.getD 0 (.mk 0 0 []):=rfl;rw[e0] at hx;have hS:=jq0 _ vl hl;have qA:LvP (jiR (l1.getD 0 (.mk 0 0 []))) (encL (jiR (l1.getD 0 (.mk 0 0 [])))):=jbP (by simp) (by simpa using hl.w)
 generalize jiR (l1.getD 0 (.mk 0 0 []))=q at *;have wA:=je3 q _ qA;have gA:=jfj qA;obtain⟨k5,n5,b5,z5,x5,gB⟩:=j0t q;unfold jmo at wA gA;cases hl.c;rcases j0b hx with⟨e,q1,rfl⟩|⟨y,la,q1,q2⟩
 ·obtain⟨rfl,rfl,hf⟩:=jel _ _ qA q1;rw[gB] at hS hf;refine j3a ?_;refine gR Tryz.func91 ?_;repeat'(first|refine gU ?_|refine gW hk ?_|refine VIdx.mk _ qB ?_|refine gZ hB ?_|refine gX hS ?_|refine j0F hf rfl rfl ?_)<;>conv=>whnf
  all_goals exact gJ
 ·obtain⟨rfl,rfl,hr,hf⟩:=jel _ _ qA q1;cases q2;rw[gB] at hS hf wA gA;refine jiT (jfe y) (jcc hr) gA ?_;refine gR Tryz.func91 ?_;repeat'(first|refine gU ?_|refine gW hk ?_|refine VIdx.mk _ qB ?_|refine gZ hB ?_|refine gX hS ?_|refine gX hf ?_|refine gX wA ?_)<;>conv=>whnf
  all_goals exact gJ
def jhj(E:Nv)(W:Tm→M Tm)(T:List Tm→Tm→M Tm)(hE:NvP E (.cp cs))(ctx:List Tm)(cv:PV)(hc:CtxP ctx cv)(t:Tm)(v:PV)(h:TmP t v)(hs:shT t=true)(l:Int)(hk:Fr 143 [.ci [.bp 0 0]] cs tot l (.ret []) (l-1))(hA:t.kind=3)(r:Except Int Tm)(l':Int)(hx:typK E W T ctx t (l-1)=some (r,l')):j5u cs tot l cv v r l':=by
 unfold typK at hx;rw[if_neg (by omega),if_neg (by omega),if_pos hA] at hx
 have h':=h;have hC:=hc;obtain⟨b,z,xs,rfl,-⟩:=hC;obtain⟨k1,n1,s1,l1,t1,b1,z1,x1,c1,y1,ys1,rfl,rfl,hB,hx1,-,-,qC,qB,-⟩:=h'.open;obtain⟨a1,a2,a3,a4,a5,a6⟩:=j0w hs;simp only[Tm.kind] at hA;subst hA;have e0:(Tm.mk 3 n1 s1 l1 t1).name=s1:=rfl;have e1:(Tm.mk 3 n1 s1 l1 t1).levels=l1:=rfl;rw[e0,e1] at hx;have gC:=a3 rfl;have hT:=jhY E (.cp cs) hE s1 l1 b1 z1 x1 hB hx1 (by omega)
 have wA:=jmh cs tot (l-1);have gB:=fun x=>@jhl E s1 l1 x
 have gA:=(jhk (E:=E) s1 l1).2;unfold exF at hx;cases hx;cases hq:typeAt E s1 l1 with
 |error e=>
  rw[hq] at hT gA;have he:¬e=0:=fun e'=>gA (by rw[e'])
  simp only[errV] at hT;have hm:=joR tz (.ag zTm) j7c e he;refine j3a ?_;refine gR Tryz.func91 ?_;repeat'(first|refine gU ?_|refine gW hk ?_|refine gW wA ?_|refine j01 hT fun _=>?_|refine j1s hm fun _=>?_|apply gK)<;>conv=>whnf
  all_goals exact gJ
 |ok x=>
  rw[hq] at hT;obtain⟨en,p1,p2⟩:=gB x hq;have qA:TmW x:=jb2 hx1.ws (hE.entry p1).1 p2;have hm:=joS x _ qA;simp only[errV] at hT;unfold TmW at qA;obtain⟨k9,n9,s9,b9,z9,x9,c9,y9,ys9,wB⟩:=j06 x;rw[wB] at hT hm qA;refine jiT (j9o p2) (j3x (j5t p2).2.2) qA ?_;refine gR Tryz.func91 ?_;repeat'(first|refine gU ?_|refine gW hk ?_|refine gW wA ?_|refine j01 hT fun _=>?_|refine j01 hm fun _=>?_|apply gK)<;>conv=>whnf
  all_goals exact gJ
def jmu(E:Nv)(W:Tm→M Tm)(T:List Tm→Tm→M Tm)(hW:WOk cs tot W)(hT:jcG cs tot T)(fW:∀t,Fine (W t))(fT:∀c t,Fine (T c t))(ctx:List Tm)(cv:PV)(hc:CtxP ctx cv)(t:Tm)(v:PV)(h:TmP t v)(hs:shT t=true)(l:Int)(h0:1≤l)(h1:l≤tot)(hk:Fr 143 [.ci [.bp 0 0]] cs tot l (.ret []) (l-1))(hA:t.kind=4)(r:Except Int Tm)(l':Int)(hx:typK E W T ctx t (l-1)=some (r,l')):j5u cs tot l cv v r l':=by
 unfold typK at hx;rw[if_neg (by omega),if_neg (by omega),if_neg (by omega),if_pos hA] at hx
 have h':=h;have kF:=hc;obtain⟨b,z,xs,rfl,-⟩:=kF;obtain⟨k1,n1,s1,l1,t1,b1,z1,x1,c1,y1,ys1,rfl,rfl,qF,hx1,-,-,wA,gA,-⟩:=h'.open;obtain⟨a1,a2,a3,a4,a5,a6⟩:=j0w hs;simp only[Tm.kind] at hA;subst hA;have hlen2:t1.length=2:=by
  have e:j0Y 4=2:=rfl;omega
 obtain⟨v0,hB,wC⟩:=gA.at (getD_at (ts:=t1) (i:=0) (by omega))
 obtain⟨v1,gD,gC⟩:=gA.at (getD_at (ts:=t1) (i:=1) (by omega))
 have m0:t1.getD 0 tz∈t1:=AE (getD_at (by omega))
 have m1:t1.getD 1 tz∈t1:=AE (getD_at (by omega))
 have e0:(Tm.mk 4 n1 s1 l1 t1).arg 0=t1.getD 0 tz:=rfl;have e1:(Tm.mk 4 n1 s1 l1 t1).arg 1=t1.getD 1 tz:=rfl;rw[e0,e1] at hx;cases wC.c;cases gC.c;rcases j0b hx with⟨e,q1,rfl⟩|⟨y,la,q1,q2⟩
 ·obtain⟨-,hf⟩:=hT ctx _ hc _ _ wC (a5 _ m0) (l-1) _ l' (by omega) (by omega) q1
  have hf:Fr _ _ _ _ _ (.pan (j0f e)) l':=hf;refine j3a ?_;refine gR Tryz.func91 ?_;repeat'(first|refine gU ?_|refine gW hk ?_|refine VIdx.mk _ hB ?_|refine gZ wA ?_|refine gW hf ?_)<;>conv=>whnf
  all_goals exact gJ
 obtain⟨hy,wy,hC,hf⟩:=hT ctx _ hc _ _ wC (a5 _ m0) (l-1) _ la (by omega) (by omega) q1
 have gF:=(fT ctx (t1.getD 0 tz)).dn (l-1) _ la (by omega) q1
 cases hC.c;rcases j0b q2 with⟨e,q3,rfl⟩|⟨g,lb,q3,q4⟩
 ·obtain⟨-,hg⟩:=hW y _ hC la _ l' (by omega) (by omega) q3
  have hg:Fr _ _ _ _ _ (.pan (j0f e)) l':=hg;refine j3a ?_;refine gR Tryz.func91 ?_;repeat'(first|refine gU ?_|refine gW hk ?_|refine VIdx.mk _ hB ?_|refine gZ wA ?_|refine gW hf ?_|refine gW hg ?_)<;>conv=>whnf
  all_goals exact gJ
 obtain⟨wE,wg,hE,hg⟩:=hW y _ hC la _ lb (by omega) (by omega) q3
 obtain⟨qE,hG⟩:=wE g rfl;obtain⟨k5,n5,s5,l5,t5,b5,z5,x5,c5,y5,ys5,e5,rfl,-,-,-,-,hD,wB,-⟩:=hE.open;subst e5;have ek:(Tm.mk k5 n5 s5 l5 t5).kind=k5:=rfl;have ea:(Tm.mk k5 n5 s5 l5 t5).arg 1=t5.getD 1 tz:=rfl;rw[ek,ea] at q4
 by_cases qB:k5=6
 ·rw[decide_eq_true qB] at q4;have q4:j4W (InstF (t5.getD 1 tz) [t1.getD 1 tz]) lb=some (r,l'):=q4;have wF:t5.length=2:=by
   have:=(j0w qE).2.1;subst qB;have e:j0Y 6=2:=rfl;omega
  obtain⟨v5,qD,qC⟩:=wB.at (getD_at (ts:=t5) (i:=1) (by omega))
  have hn:Pf C1 141 [bv (decide (k5=6)),iv 20] []:=by
   rw[decide_eq_true qB];exact j2w 20
  have hI:=j7k _ _ qC [t1.getD 1 tz] true 5 _ (.inl rfl) ⟨_,[],rfl,gC,rfl⟩ (by simp)
  have gB:TmW ((InstF (t5.getD 1 tz) [t1.getD 1 tz]).getD tz):=j7M fun x hx=>j9n (by simpa using gC.w) qC.w hx
  rw[j5W] at hI;have kE:∀x,InstF (t5.getD 1 tz) [t1.getD 1 tz]=some x→shT x=true:=fun x hx=>j7j hx
  generalize InstF (t5.getD 1 tz) [t1.getD 1 tz]=o at *;obtain⟨rfl,qA⟩:=j2L o _ gB q4;cases qC.c;unfold TmW at gB;obtain⟨k9,n9,s9,b9,z9,x9,c9,y9,ys9,hF⟩:=j06 (o.getD tz);rw[hF] at hI qA gB;cases r with
  |error e=>
   obtain⟨rfl,qA⟩:=qA;refine j3a ?_;refine gR Tryz.func91 ?_;repeat'(first|refine gU ?_|refine gW hk ?_|refine VIdx.mk _ hB ?_|refine VIdx.mk _ gD ?_|refine gZ wA ?_|refine gW hf ?_|refine gW hg ?_|refine gX hn ?_|refine VIdx.mk _ qD ?_|refine gZ hD ?_|refine j01 hI fun _=>?_|refine j1s qA fun _=>?_|apply gK)<;>conv=>whnf
   all_goals exact gJ
  |ok x=>
   obtain⟨rfl,wD,qA⟩:=qA;refine jiT (kE _ rfl) wD gB ?_;refine gR Tryz.func91 ?_;repeat'(first|refine gU ?_|refine gW hk ?_|refine VIdx.mk _ hB ?_|refine VIdx.mk _ gD ?_|refine gZ wA ?_|refine gW hf ?_|refine gW hg ?_|refine gX hn ?_|refine VIdx.mk _ qD ?_|refine gZ hD ?_|refine j01 hI fun _=>?_|refine j01 qA fun _=>?_|apply gK)<;>conv=>whnf
   all_goals exact gJ
 ·rw[decide_eq_false qB] at q4;cases q4;have hn:Finds C1 141 [bv (decide (k5=6)),iv 20] [] fun r _=>r=.pan (j0f 20):=by
   rw[decide_eq_false qB];exact j2M 20
  refine j3a ?_;refine gR Tryz.func91 ?_;repeat'(first|refine gU ?_|refine gW hk ?_|refine VIdx.mk _ hB ?_|refine gZ wA ?_|refine gW hf ?_|refine gW hg ?_|refine j0F hn rfl rfl ?_)<;>conv=>whnf
  all_goals exact gJ
open Go Go.Am Go.Gw
def jmv(E:Nv)(W:Tm→M Tm)(T:List Tm→Tm→M Tm)(hT:jcG cs tot T)(fT:∀c t,Fine (T c t))(ctx:List Tm)(cv:PV)(hc:CtxP ctx cv)(t:Tm)(v:PV)(h:TmP t v)(hs:shT t=true)(l:Int)(h0:1≤l)(h1:l≤tot)(hk:Fr 143 [.ci [.bp 0 0]] cs tot l (.ret []) (l-1))(hA:t.kind=5)(r:Except Int Tm)(l':Int)(hx:typK E W T ctx t (l-1)=some (r,l')):j5u cs tot l cv v r l':=by
 unfold typK at hx;rw[if_neg (by omega),if_neg (by omega),if_neg (by omega),if_neg (by omega),if_pos hA] at hx
 have h':=h;have wD:=hc;obtain⟨b,z,xs,rfl,-⟩:=wD;obtain⟨k1,n1,s1,l1,t1,b1,z1,x1,c1,y1,ys1,rfl,rfl,hE,hx1,-,-,hB,gA,-⟩:=h'.open;obtain⟨a1,a2,a3,a4,a5,a6⟩:=j0w hs;simp only[Tm.kind] at hA;subst hA;have hlen2:t1.length=2:=by
  have e:j0Y 5=2:=rfl;omega
 obtain⟨v0,gB,wB⟩:=gA.at (getD_at (ts:=t1) (i:=0) (by omega))
 obtain⟨v1,qB,gC⟩:=gA.at (getD_at (ts:=t1) (i:=1) (by omega))
 have m0:t1.getD 0 tz∈t1:=AE (getD_at (by omega))
 have m1:t1.getD 1 tz∈t1:=AE (getD_at (by omega))
 have e0:(Tm.mk 5 n1 s1 l1 t1).arg 0=t1.getD 0 tz:=rfl;have e1:(Tm.mk 5 n1 s1 l1 t1).arg 1=t1.getD 1 tz:=rfl;rw[e0,e1] at hx;cases wB.c;cases gC.c;rcases j0b hx with⟨e,q1,rfl⟩|⟨c2',la,q1,q2⟩
 ·obtain⟨rfl,rfl,hw⟩:=j3p ctx _ hc _ _ wB (a5 _ m0) q1;refine j3a ?_;refine gR Tryz.func91 ?_;repeat'(first|refine gU ?_|refine gW hk ?_|refine VIdx.mk _ gB ?_|refine VIdx.mk _ qB ?_|refine gZ hB ?_|refine j1s hw fun _=>?_|apply gK)<;>conv=>whnf
  all_goals exact gJ
 obtain⟨rfl,rfl,wc,qC,hw⟩:=j3p ctx _ hc _ _ wB (a5 _ m0) q1;have hC:=qC;obtain⟨b7,z7,x7,rfl,-⟩:=hC;rcases j0b q2 with⟨e,q3,rfl⟩|⟨y,lb,q3,q4⟩
 ·obtain⟨-,hf⟩:=hT _ _ qC _ _ gC (a5 _ m1) (l-1) _ l' (by omega) (by omega) q3
  have hf:Fr _ _ _ _ _ (.pan (j0f e)) l':=hf;refine j3a ?_;refine gR Tryz.func91 ?_;repeat'(first|refine gU ?_|refine gW hk ?_|refine VIdx.mk _ gB ?_|refine VIdx.mk _ qB ?_|refine gZ hB ?_|refine j01 hw fun _=>?_|refine gW hf ?_|apply gK)<;>conv=>whnf
  all_goals exact gJ
 obtain⟨hy,wy,wC,hf⟩:=hT _ _ qC _ _ gC (a5 _ m1) (l-1) _ lb (by omega) (by omega) q3
 obtain⟨qD,kE⟩:=hy y rfl;obtain⟨wp,wA,hp⟩:=jrS y _ wC [t1.getD 0 tz] true 5 _ (.inl rfl) ⟨_,[],rfl,wB,rfl⟩ (by simp)
 have gD:shT (overR 6 [t1.getD 0 tz] y)=true:=jaq (by omega) rfl (by omega) (fun _=>rfl) (fun x hx=>by
  rcases AN.1 hx with rfl|hx
  ·exact a5 _ m0
  ·rw[BD.1 hx];exact qD) (by omega)
 have wA:TmP ((some (overR 6 [t1.getD 0 tz] y)).getD tz) wp:=wA;obtain⟨rfl,qA⟩:=j2L _ wp wA q4;cases wC.c;cases wA.c;cases r with
 |error e=>
  obtain⟨rfl,qA⟩:=qA;refine j3a ?_;refine gR Tryz.func91 ?_;repeat'(first|refine gU ?_|refine gW hk ?_|refine VIdx.mk _ gB ?_|refine VIdx.mk _ qB ?_|refine gZ hB ?_|refine j01 hw fun _=>?_|refine gW hf ?_|refine j01 hp fun _=>?_|refine j1s qA fun _=>?_|apply gK)<;>conv=>whnf
  all_goals exact gJ
 |ok x=>
  obtain⟨e,hD,qA⟩:=qA;cases e;refine jiT gD hD wA ?_;refine gR Tryz.func91 ?_;repeat'(first|refine gU ?_|refine gW hk ?_|refine VIdx.mk _ gB ?_|refine VIdx.mk _ qB ?_|refine gZ hB ?_|refine j01 hw fun _=>?_|refine gW hf ?_|refine j01 hp fun _=>?_|refine j01 qA fun _=>?_|apply gK)<;>conv=>whnf
  all_goals exact gJ
def jpI(E:Nv)(W:Tm→M Tm)(T:List Tm→Tm→M Tm)(hS:jrU cs tot (sortB W T))(fS:∀c t,Fine (sortB W T c t))(ctx:List Tm)(cv:PV)(hc:CtxP ctx cv)(t:Tm)(v:PV)(h:TmP t v)(hs:shT t=true)(l:Int)(h0:1≤l)(h1:l≤tot)(hk:Fr 143 [.ci [.bp 0 0]] cs tot l (.ret []) (l-1))(hA:t.kind=6)(r:Except Int Tm)(l':Int)(hx:typK E W T ctx t (l-1)=some (r,l')):j5u cs tot l cv v r l':=by
 unfold typK at hx;rw[if_neg (by omega),if_neg (by omega),if_neg (by omega),if_neg (by omega),if_neg (by omega),if_pos hA] at hx
 have h':=h;have hE:=hc;obtain⟨b,z,xs,rfl,-⟩:=hE;obtain⟨k1,n1,s1,l1,t1,b1,z1,x1,c1,y1,ys1,rfl,rfl,kE,hx1,-,-,gA,qA,-⟩:=h'.open;obtain⟨a1,a2,a3,a4,a5,a6⟩:=j0w hs;simp only[Tm.kind] at hA;subst hA;have hlen2:t1.length=2:=by
  have e:j0Y 6=2:=rfl;omega
 obtain⟨v0,wA,qB⟩:=qA.at (getD_at (ts:=t1) (i:=0) (by omega))
 obtain⟨v1,wB,gD⟩:=qA.at (getD_at (ts:=t1) (i:=1) (by omega))
 have m0:t1.getD 0 tz∈t1:=AE (getD_at (by omega))
 have m1:t1.getD 1 tz∈t1:=AE (getD_at (by omega))
 have e0:(Tm.mk 6 n1 s1 l1 t1).arg 0=t1.getD 0 tz:=rfl;have e1:(Tm.mk 6 n1 s1 l1 t1).arg 1=t1.getD 1 tz:=rfl;rw[e0,e1] at hx;cases qB.c;cases gD.c;rcases j0b hx with⟨e,q1,rfl⟩|⟨lv,la,q1,q2⟩
 ·have hf:=hS ctx _ hc _ _ qB (a5 _ m0) (l-1) _ l' (by omega) (by omega) q1
  have hf:Fr _ _ _ _ _ (.pan (j0f e)) l':=hf;refine j3a ?_;refine gR Tryz.func91 ?_;repeat'(first|refine gU ?_|refine gW hk ?_|refine VIdx.mk _ wA ?_|refine gZ gA ?_|refine gW hf ?_)<;>conv=>whnf
  all_goals exact gJ
 obtain⟨wl,qC,hf⟩:=hS ctx _ hc _ _ qB (a5 _ m0) (l-1) _ la (by omega) (by omega) q1
 have qE:=(fS ctx (t1.getD 0 tz)).dn (l-1) _ la (by omega) q1
 cases qC.c;rcases j0b q2 with⟨e,q3,rfl⟩|⟨c2',lb,q3,q4⟩
 ·obtain⟨rfl,rfl,hw⟩:=j3p ctx _ hc _ _ qB (a5 _ m0) q3;refine j3a ?_;refine gR Tryz.func91 ?_;repeat'(first|refine gU ?_|refine gW hk ?_|refine VIdx.mk _ wA ?_|refine VIdx.mk _ wB ?_|refine gZ gA ?_|refine gW hf ?_|refine j1s hw fun _=>?_|apply gK)<;>conv=>whnf
  all_goals exact gJ
 obtain⟨rfl,rfl,wc,wC,hw⟩:=j3p ctx _ hc _ _ qB (a5 _ m0) q3;have gC:=wC;obtain⟨b7,z7,x7,rfl,-⟩:=gC;rcases j0b q4 with⟨e,q5,rfl⟩|⟨mv,lc,q5,q6⟩
 ·have hg:=hS _ _ wC _ _ gD (a5 _ m1) lb _ l' (by omega) (by omega) q5
  have hg:Fr _ _ _ _ _ (.pan (j0f e)) l':=hg;refine j3a ?_;refine gR Tryz.func91 ?_;repeat'(first|refine gU ?_|refine gW hk ?_|refine VIdx.mk _ wA ?_|refine VIdx.mk _ wB ?_|refine gZ gA ?_|refine gW hf ?_|refine j01 hw fun _=>?_|refine gW hg ?_|apply gK)<;>conv=>whnf
  all_goals exact gJ
 obtain⟨wm,gB,hg⟩:=hS _ _ wC _ _ gD (a5 _ m1) lb _ lc (by omega) (by omega) q5
 have hM:=jfV lv _ qC mv _ gB;have hC:LvP (j9s lv mv) (encL (j9s lv mv)):=by
  unfold j9s;split
  ·exact jbP (by simp) (by simp)
  ·split
   ·exact gB.w
   ·exact jbP (by simp) (fun x hx=>by
     rcases AN.1 hx with rfl|hx
     ·exact qC.w
     ·rw[BD.1 hx];exact gB.w)
 generalize j9s lv mv=q at *;have qD:=je3 q _ hC;have hD:=jfj hC;obtain⟨k5,n5,b5,z5,x5,wD⟩:=j0t q;unfold jmo at qD hD;cases gB.c;rcases j0b q6 with⟨e,q7,rfl⟩|⟨y,ld,q7,q8⟩
 ·obtain⟨rfl,rfl,hB⟩:=jel _ _ hC q7;rw[wD] at hM hB;refine j3a ?_;refine gR Tryz.func91 ?_;repeat'(first|refine gU ?_|refine gW hk ?_|refine VIdx.mk _ wA ?_|refine VIdx.mk _ wB ?_|refine gZ gA ?_|refine gW hf ?_|refine j01 hw fun _=>?_|refine gW hg ?_|refine gX hM ?_|refine j0F hB rfl rfl ?_|apply gK)<;>conv=>whnf
  all_goals exact gJ
 ·obtain⟨rfl,rfl,hr,hB⟩:=jel _ _ hC q7;cases q8;rw[wD] at hM hB qD hD;refine jiT (jfe y) (jcc hr) hD ?_;refine gR Tryz.func91 ?_;repeat'(first|refine gU ?_|refine gW hk ?_|refine VIdx.mk _ wA ?_|refine VIdx.mk _ wB ?_|refine gZ gA ?_|refine gW hf ?_|refine j01 hw fun _=>?_|refine gW hg ?_|refine gX hM ?_|refine gX hB ?_|refine gX qD ?_|apply gK)<;>conv=>whnf
  all_goals exact gJ
def jmw(E:Nv)(W:Tm→M Tm)(T:List Tm→Tm→M Tm)(hT:jcG cs tot T)(ctx:List Tm)(cv:PV)(hc:CtxP ctx cv)(t:Tm)(v:PV)(h:TmP t v)(hs:shT t=true)(l:Int)(h0:1≤l)(h1:l≤tot)(hk:Fr 143 [.ci [.bp 0 0]] cs tot l (.ret []) (l-1))(hA:t.kind=7)(r:Except Int Tm)(l':Int)(hx:typK E W T ctx t (l-1)=some (r,l')):j5u cs tot l cv v r l':=by
 unfold typK at hx;rw[if_neg (by omega),if_neg (by omega),if_neg (by omega),if_neg (by omega),if_neg (by omega),if_neg (by omega)] at hx
 have h':=h;have wD:=hc;obtain⟨b,z,xs,rfl,-⟩:=wD;obtain⟨k1,n1,s1,l1,t1,b1,z1,x1,c1,y1,ys1,rfl,rfl,kE,hx1,-,-,hB,qA,-⟩:=h'.open;obtain⟨a1,a2,a3,a4,a5,a6⟩:=j0w hs;simp only[Tm.kind] at hA;subst hA;have gC:t1.length=3:=by
  have e:j0Y 7=3:=rfl;omega
 obtain⟨v1,gB,hC⟩:=qA.at (getD_at (ts:=t1) (i:=1) (by omega))
 obtain⟨v2,qB,wB⟩:=qA.at (getD_at (ts:=t1) (i:=2) (by omega))
 have e1:(Tm.mk 7 n1 s1 l1 t1).arg 1=t1.getD 1 tz:=rfl;have e2:(Tm.mk 7 n1 s1 l1 t1).arg 2=t1.getD 2 tz:=rfl;rw[e1,e2] at hx;have hI:=j7k _ _ wB [t1.getD 1 tz] true 5 _ (.inl rfl) ⟨_,[],rfl,hC,rfl⟩ (by simp)
 have gA:TmW ((InstF (t1.getD 2 tz) [t1.getD 1 tz]).getD tz):=j7M fun x hx=>j9n (by simpa using hC.w) wB.w hx
 rw[j5W] at hI;have qD:∀x,InstF (t1.getD 2 tz) [t1.getD 1 tz]=some x→shT x=true:=fun x hx=>j7j hx
 generalize InstF (t1.getD 2 tz) [t1.getD 1 tz]=o at *;cases hC.c;cases wB.c;unfold TmW at gA;obtain⟨k9,n9,s9,b9,z9,x9,c9,y9,ys9,gD⟩:=j06 (o.getD tz);rw[gD] at hI gA;rcases j0b hx with⟨e,q1,rfl⟩|⟨y,la,q1,q2⟩
 ·obtain⟨rfl,rfl,wA⟩:=j2L o _ gA q1;refine j3a ?_;refine gR Tryz.func91 ?_;repeat'(first|refine gU ?_|refine gW hk ?_|refine VIdx.mk _ gB ?_|refine VIdx.mk _ qB ?_|refine gZ hB ?_|refine j01 hI fun _=>?_|refine j1s wA fun _=>?_|apply gK)<;>conv=>whnf
  all_goals exact gJ
 ·obtain⟨rfl,rfl,hE,wA⟩:=j2L o _ gA q1;have wC:TmP y (.ag [iv k9,iv n9,sv s9,.sl b9 z9 x9,.sl c9 y9 ys9]):=gA;obtain⟨hD,hf⟩:=hT ctx _ hc _ _ wC (qD _ rfl) (l-1) r l' (by omega) (by omega) q2
  cases r with
  |error e=>
   have hf:Fr _ _ _ _ _ (.pan (j0f e)) l':=hf;refine j3a ?_;refine gR Tryz.func91 ?_;repeat'(first|refine gU ?_|refine gW hk ?_|refine VIdx.mk _ gB ?_|refine VIdx.mk _ qB ?_|refine gZ hB ?_|refine j01 hI fun _=>?_|refine j01 wA fun _=>?_|refine gW hf ?_|apply gK)<;>conv=>whnf
   all_goals exact gJ
  |ok x=>
   obtain⟨wx,qC,hf⟩:=hf;obtain⟨r1,r2⟩:=hD x rfl;cases qC.c;refine jiT r1 r2 qC ?_;refine gR Tryz.func91 ?_;repeat'(first|refine gU ?_|refine gW hk ?_|refine VIdx.mk _ gB ?_|refine VIdx.mk _ qB ?_|refine gZ hB ?_|refine j01 hI fun _=>?_|refine j01 wA fun _=>?_|refine gW hf ?_|apply gK)<;>conv=>whnf
   all_goals exact gJ
def jrz(ht:tot≤1048576)(E:Nv)(hE:NvP E (.cp cs))(W:Tm→M Tm)(T:List Tm→Tm→M Tm)(hW:WOk cs tot W)(hT:jcG cs tot T)(fW:∀t,Fine (W t))(fT:∀c t,Fine (T c t)):jcG cs tot (typB E W T):=by
 intro ctx cv hc t v h hs l r l' h0 h1 hx;rw[jtD] at hx;rcases j0b hx with⟨e,q1,rfl⟩|⟨u0,la,q1,q2⟩
 ·rcases j1l q1 with⟨a1,a2,a3⟩|⟨a1,a2,a3⟩
  ·cases a3
  ·cases a3;subst a2;have hk:=jaH cs tot l' a1;refine j3a ?_;obtain⟨b,z,xs,rfl,-⟩:=hc;cases h.c;refine gR Tryz.func91 ?_;repeat'(first|refine gW hk ?_)<;>conv=>whnf
   all_goals exact gJ
 rcases j1l q1 with⟨a1,a2,a3⟩|⟨a1,a2,a3⟩
 rotate_left
 ·cases a3
 subst a2;have hk:=j8x cs tot l a1 h1 ht;have hA:1≤t.kind∧t.kind≤7:=by
  obtain⟨k,n,s,ls,ts⟩:=t;exact(j0w hs).1
 obtain e|e|e|e|e|e|e:t.kind=1∨t.kind=2∨t.kind=3∨t.kind=4∨t.kind=5∨t.kind=6∨t.kind=7:=by omega
 ·exact jmx E W T ctx cv hc t v h hs l hk e r l' q2
 ·exact jiX E W T ctx cv hc t v h hs l hk e r l' q2
 ·exact jhj E W T hE ctx cv hc t v h hs l hk e r l' q2
 ·exact jmu E W T hW hT fW fT ctx cv hc t v h hs l a1 h1 hk e r l' q2
 ·exact jmv E W T hT fT ctx cv hc t v h hs l a1 h1 hk e r l' q2
 ·exact jpI E W T (jg3 ht hW hT fW fT) (j3t fW fT) ctx cv hc t v h hs l a1 h1 hk e r l' q2
 ·exact jmw E W T hT ctx cv hc t v h hs l a1 h1 hk e r l' q2

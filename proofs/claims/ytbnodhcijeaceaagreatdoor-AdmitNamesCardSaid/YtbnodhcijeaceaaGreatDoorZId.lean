/- A term's weak head normal form: find, step, head. -/
import Derived.Test.YtbnodhcijeaceaaGreatDoorZKy
set_option linter.all false
set_option maxHeartbeats 4000000
set_option maxRecDepth 100000
namespace Go.Proofs.YtbnodhcijeaceaaGreatDoor
open Go Go.Am Go.Gw
theorem jew{b:Bool}{A:Prop}:b=true→A→(match b with
  |true=>A
  |false=>False):=by
 intro h a;subst h;exact a
theorem jkK{ts:List Tm}(h:∀t∈ts,TmW t):∃b z xs,j7Z ts=.sl b z xs∧(z=5∨xs=[])∧TmsP ts xs:=j9B h
theorem jh4(E:Nv)(cs:List PV)(hE:NvP E (.cp cs))(tot:Int)(hd:Tm→M Tm)(hH:jfc cs tot hd)(t:Tm)(v:PV)(h:TmP t v)(hs:shT t=true)(hsz:sizT t≤2000)(l:Int)(r:Except Int Rdx)(l':Int)(h0:0≤l)(h1:l≤tot)(hx:ja2 E hd t l=some (r,l')):
  FrR 312 [.bp 0 0,v] cs tot l r l':=by
 have hsp:=j9z t;obtain⟨hs1,hs2,hs3⟩:=jjS t hs;have hS:=jaz t v h (by omega)
 obtain⟨hw1,hw2⟩:=jqL t h.w;obtain⟨ab,az,axs,hae,haz,haxs⟩:=jkK (ts:=j1c t) fun a ha=>hw2 a (j3a.1 ha)
 have hal:(j1c t).length≤2000:=by simp[j1c];omega
 have hash:∀a∈j1c t,shT a=true:=fun a ha=>hs2 a (j3a.1 ha)
 have hasz:∀a∈j1c t,sizT a≤2000:=fun a ha=>by
  have:=hsp.2 a (j3a.1 ha);omega
 rw[hae] at hS;unfold ja2 at hx;generalize(spF t).1=hh at *;generalize j1c t=args at *;have halen:=haxs.len;have hbe:=jpo hh _ hw1 ab az axs;have hze:=jr5 hh _ hw1 ab az axs;have hb1:=fun(hk:hh.kind=5) (hp:¬args.length=0)=>jmr hh _ hw1 hs1 hk args ab az axs haz haxs hp hal
 have hz1:=fun(hk:hh.kind=7)=>jpb hh _ hw1 hs1 hk args ab az axs haz haxs hal
 have hco:=fun(hk:hh.kind=3)=>jlY E cs hE tot hd hH hh _ hw1 hs1 hk args ab az axs haz haxs hal hash hasz l r l' h0 h1
 unfold jn9 at hx;obtain⟨k2,n2,s2,ls2,ts2⟩:=hh;obtain⟨b2,z2,x2,hl2⟩:=j9a ls2;obtain⟨c2,y2,ys2,ht2⟩:=j9b ts2;have he:encT (.mk k2 n2 s2 ls2 ts2)=.ag [iv k2,iv n2,sv s2,.sl b2 z2 x2,.sl c2 y2 ys2]:=by rw[j2N,hl2,ht2]
 rw[he] at hS hbe hze hb1 hz1 hco;obtain⟨k1,n1,s1,l1,t1,b1,z1,x1,c1,y1,ys1,rfl,rfl,-⟩:=h.open;have ek:(Tm.mk k2 n2 s2 ls2 ts2).kind=k2:=rfl;rw[ek] at hb1 hz1 hco hx hs3
 by_cases q1:k2=5∧¬args.length=0
 ·rw[if_pos q1] at hx;cases hx;obtain⟨w,ho,hf⟩:=hb1 q1.1 q1.2;refine⟨.ag [iv 1,.fn 366 [] [.cp (PV.ag [iv k2,iv n2,sv s2,.sl b2 z2 x2,.sl c2 y2 ys2]).cells,.cp [.sl ab az axs]]],⟨by omega,fun y hy=>?_,_,_,w,rfl,ho,rfl,.inl ⟨.inl ⟨_,_,rfl⟩,?_⟩⟩,?_⟩
  ·exact jdR hy (fun y hy=>j6J hy) fun a ha=>hash a (List.mem_of_mem_drop ha)
  ·rw[j7O];exact hf
  ·refine j00 Tryz.func312 rfl rfl rfl ?_;repeat'(first|refine gU ?_|apply gE<;>intro h|refine gX hS ?_|refine gX hbe ?_)<;>conv=>whnf
   all_goals exact gJ
 rw[if_neg q1] at hx
 by_cases q2:k2=7
 ·rw[if_pos q2] at hx;cases hx;obtain⟨w,ho,hf⟩:=hz1 q2;refine⟨.ag [iv 2,.fn 367 [] [.cp (PV.ag [iv k2,iv n2,sv s2,.sl b2 z2 x2,.sl c2 y2 ys2]).cells,.cp [.sl ab az axs]]],⟨by omega,fun y hy=>?_,_,_,w,rfl,ho,rfl,.inl ⟨.inl ⟨_,_,rfl⟩,?_⟩⟩,?_⟩
  ·exact jdR hy (fun y hy=>j6J hy) hash
  ·rw[j7O];exact hf
  ·refine j00 Tryz.func312 rfl rfl rfl ?_;repeat'(first|refine gU ?_|apply gE<;>intro h|refine gX hS ?_|refine gX hze ?_)<;>conv=>whnf
   all_goals exact gJ
 rw[if_neg q2] at hx
 by_cases q3:k2=3
 ·rw[if_pos q3] at hx;have hc:=hco q3 hx;cases r with
  |error e=>
   have hc:Fr 343 [.bp 0 0,.ag [iv k2,iv n2,sv s2,.sl b2 z2 x2,.sl c2 y2 ys2],.sl ab az axs] cs tot l (.pan (j1T e)) l':=hc;show Fr _ _ _ _ _ (.pan (j1T e)) l'
   refine j00 Tryz.func312 rfl rfl rfl ?_;repeat'(first|refine gU ?_|apply gE<;>intro h|refine gX hS ?_|refine gW hc ?_)<;>conv=>whnf
   all_goals exact gJ
  |ok rd=>
   obtain⟨w,hw,hf⟩:=hc;refine⟨w,hw,?_⟩;cases rd with
   |none=>
    obtain rfl:w=.ag [iv 0,.sc .nilFunc]:=hw;refine j00 Tryz.func312 rfl rfl rfl ?_;repeat'(first|refine gU ?_|apply gE<;>intro h|refine gX hS ?_|refine gW hf ?_)<;>conv=>whnf
    all_goals exact gJ
   |some p=>
    obtain⟨kk,o⟩:=p;obtain⟨hk0,-,g,cl,wo,rfl,ho,hcl,⟨⟨a',b',rfl⟩|⟨a',b',c',d',e',f',rfl⟩,-⟩|⟨rfl,⟨a',b',rfl⟩,-⟩⟩:=hw
    ·refine j00 Tryz.func312 rfl rfl rfl ?_;repeat'(first|refine gU ?_|apply gE<;>intro h|refine gX hS ?_|refine gW hf ?_)<;>conv=>whnf
     all_goals exact gJ
    ·refine j00 Tryz.func312 rfl rfl rfl ?_;repeat'(first|refine gU ?_|apply gE<;>intro h|refine gX hS ?_|refine gW hf ?_)<;>conv=>whnf
     all_goals exact gJ
    ·refine j00 Tryz.func312 rfl rfl rfl ?_;repeat'(first|refine gU ?_|apply gE<;>intro h|refine gX hS ?_|refine gW hf ?_)<;>conv=>whnf
     all_goals first|(exfalso;omega)|skip
     refine(show VRet C1 312 1 [.ag [iv kk,.fn 385 [] [.ci [.bp 0 0],.cp a',.cp b']]] [runB cs tot l',.box 25 [iv k1,iv n1,sv s1,.sl b1 z1 x1,.sl c1 y1 ys1],.box 309 [iv kk,.fn 385 [] [.ci [.bp 0 0],.cp a',.cp b']],.box 25 [iv k2,iv n2,sv s2,.sl b2 z2 x2,.sl c2 y2 ys2]] _ from ?_)
     exact jfb rfl rfl rfl rfl ⟨rfl,rfl⟩
 rw[if_neg q3] at hx;cases hx;refine⟨_,j6U cs tot,?_⟩;refine j00 Tryz.func312 rfl rfl rfl ?_;repeat'(first|refine gU ?_|apply gE<;>intro h|refine gX hS ?_)<;>conv=>whnf
 all_goals exact gJ
def jf3(E:Nv)(hd:Tm→M Tm)(t:Tm):M (Option (Int×Tm)):=bnd (ja2 E hd t) fun r=>match r with
 |none=>mok none
 |some (k,o)=>bnd (j7B o) fun x=>mok (some (k,x))
variable{K:AEnd→Sto→Prop}{r:Except Int Tm}{f:FuncId}{l l' tot:Int}{cs:List PV}{cv v:PV}{st:Sto}{x:Tm}
theorem jkX{E:Nv}{hd:Tm→M Tm}{t:Tm}(h:headB E hd t l=some (r,l')):(∃e,jf3 E hd t l=some (.error e,l')∧r=.error e)∨(jf3 E hd t l=some (.ok none,l')∧r=.ok t)∨∃k x l1,jf3 E hd t l=some (.ok (some (k,x)),l1)∧hd x l1=some (r,l'):=by
 unfold headB at h;rcases j09 h with⟨e,h1,rfl⟩|⟨rd,l1,h1,h2⟩
 ·exact .inl ⟨e,by simp only[jf3,bnd,h1],rfl⟩
 ·match rd with
  |none=>
   cases h2;exact .inr (.inl ⟨by simp only[jf3,bnd,h1,mok],rfl⟩)
  |some (k,o)=>
   rcases j09 h2 with⟨e,h3,rfl⟩|⟨x,l2,h3,h4⟩
   ·exact .inl ⟨e,by simp only[jf3,bnd,h1,h3],rfl⟩
   ·exact .inr (.inr ⟨k,x,l2,by simp only[jf3,bnd,h1,h3,mok],h4⟩)
def FrS(args cs:List PV)(v:PV)(tot l:Int)(r:Except Int (Option (Int×Tm)))(l':Int):Prop:=match r with
 | .ok none=>Fr 277 args cs tot l (.ret [v,iv 0]) l'
 | .ok (some (k,x))=>¬k=0∧shT x=true∧sizT x≤2000∧∃w,TmP x w∧Fr 277 args cs tot l (.ret [w,iv k]) l'
 | .error e=>Fr 277 args cs tot l (.pan (j1T e)) l'
theorem jsx{o:Option Tm}(h:¬1≤l):j7B o l=some (.error 22,l):=by
 simp only[j7B,bnd,j5G,decide_eq_false h]
theorem jnZ(h:1≤l):j7B none l=some (.error 15,l-1):=by
 simp only[j7B,bnd,j5G,decide_eq_true h,optF,mno]
theorem jq4(h:1≤l)(hn:¬j0v x≤2000):j7B (some x) l=some (.error 15,l-1):=by
 simp only[j7B,bnd,j5G,decide_eq_true h,optF,mok,j3h,decide_eq_false hn,mno]
theorem jo0(h:1≤l)(hn:j0v x≤2000):j7B (some x) l=some (.ok x,l-1):=by
 simp only[j7B,bnd,j5G,decide_eq_true h,optF,mok,j3h,decide_eq_true hn]
theorem jqM(E:Nv)(cs:List PV)(hE:NvP E (.cp cs))(tot:Int)(ht:tot≤1048576)(hd:Tm→M Tm)(hF:∀t,Fine (hd t))(hH:jfc cs tot hd)(t:Tm)(v:PV)(h:TmP t v)(hs:shT t=true)(hsz:sizT t≤2000)(l:Int)(r:Except Int (Option (Int×Tm)))(l':Int)(h0:0≤l)(h1:l≤tot)(hx:jf3 E hd t l=some (r,l')):
  FrS [.bp 0 0,v] cs v tot l r l':=by
 unfold jf3 at hx;rcases j09 hx with⟨e,q1,rfl⟩|⟨rd,l1,q1,q2⟩
 ·have hf:Fr 312 [.bp 0 0,v] cs tot l (.pan (j1T e)) l':=jh4 E cs hE tot hd hH t v h hs hsz l _ l' h0 h1 q1;show Fr _ _ _ _ _ (.pan (j1T e)) l'
  obtain⟨k1,n1,s1,l1,t1,b1,z1,x1,c1,y1,ys1,rfl,rfl,-⟩:=h.open;refine j00 Tryz.func277 rfl rfl rfl ?_;repeat'(first|refine gW hf ?_)<;>conv=>whnf
  all_goals exact gJ
 ·obtain⟨w,hw,hf⟩:=jh4 E cs hE tot hd hH t v h hs hsz l _ l1 h0 h1 q1;obtain⟨hl0,hl1⟩:=(j8c (E:=E) hF t).dn l _ l1 h0 q1;obtain⟨k1,n1,s1,l1',t1,b1,z1,x1,c1,y1,ys1,rfl,rfl,-⟩:=h.open;match rd with
  |none=>
   cases q2;obtain rfl:w=.ag [iv 0,.sc .nilFunc]:=hw;show Fr _ _ _ _ _ (.ret [_,iv 0]) l'
   refine j00 Tryz.func277 rfl rfl rfl ?_;repeat'(first|refine gU ?_|refine gW hf ?_)<;>conv=>whnf
   all_goals exact gJ
  |some (k,o)=>
   obtain⟨hk0,hshx,g,cl,wo,rfl,⟨⟨k9,n9,s9,b9,z9,x9,c9,y9,ys9,rfl⟩,hoT⟩,hcl,hcase⟩:=hw
   by_cases t1:1≤l1
   ·have hsp:=jf1 cs tot l1 t1 (by omega) ht
    cases o with
    |none=>
     simp only[bnd,jnZ t1] at q2;cases q2;show Fr _ _ _ _ _ (.pan (j1T 15)) (l1-1)
     rcases hcase with⟨⟨a,b,rfl⟩|⟨a,b,c,d,e,f,rfl⟩,hc⟩|⟨rfl,⟨a,b,rfl⟩,hc⟩
     ·refine j00 Tryz.func277 rfl rfl rfl ?_;repeat'(first|refine gU ?_|refine gW hf ?_|refine gW hsp ?_|refine gX (j1e 22) ?_)<;>conv=>whnf
      try refine jew hcl ?_
      repeat'(first|refine gU ?_|refine gX hc ?_|refine j0y (j4o 15) rfl rfl ?_)<;>conv=>whnf
      all_goals exact gJ
     ·refine j00 Tryz.func277 rfl rfl rfl ?_;repeat'(first|refine gU ?_|refine gW hf ?_|refine gW hsp ?_|refine gX (j1e 22) ?_)<;>conv=>whnf
      try refine jew hcl ?_
      repeat'(first|refine gU ?_|refine gX hc ?_|refine j0y (j4o 15) rfl rfl ?_)<;>conv=>whnf
      all_goals exact gJ
     ·refine j00 Tryz.func277 rfl rfl rfl ?_;repeat'(first|refine gU ?_|refine gW hf ?_|refine gW hsp ?_|refine gX (j1e 22) ?_)<;>conv=>whnf
      try refine jew hcl ?_
      repeat'(first|refine gU ?_|refine gW (hc _) ?_|refine j0y (j4o 15) rfl rfl ?_)<;>conv=>whnf
      all_goals exact gJ
    |some x=>
     have hxT:=hoT x rfl
     by_cases n1:j0v x≤2000
     ·have hsm:=jp9 x _ hxT n1;simp only[bnd,jo0 t1 n1,mok] at q2;cases q2;refine⟨hk0,hshx x rfl,j3i n1,_,hxT,?_⟩;rcases hcase with⟨⟨a,b,rfl⟩|⟨a,b,c,d,e,f,rfl⟩,hc⟩|⟨rfl,⟨a,b,rfl⟩,hc⟩
      ·refine j00 Tryz.func277 rfl rfl rfl ?_;repeat'(first|refine gU ?_|refine gW hf ?_|refine gW hsp ?_|refine gX (j1e 22) ?_)<;>conv=>whnf
       try refine jew hcl ?_
       repeat'(first|refine gU ?_|refine gX hc ?_|refine gX (j1e 15) ?_|refine j01 hsm fun _=>?_|apply gK)<;>conv=>whnf
       all_goals exact gJ
      ·refine j00 Tryz.func277 rfl rfl rfl ?_;repeat'(first|refine gU ?_|refine gW hf ?_|refine gW hsp ?_|refine gX (j1e 22) ?_)<;>conv=>whnf
       try refine jew hcl ?_
       repeat'(first|refine gU ?_|refine gX hc ?_|refine gX (j1e 15) ?_|refine j01 hsm fun _=>?_|apply gK)<;>conv=>whnf
       all_goals exact gJ
      ·refine j00 Tryz.func277 rfl rfl rfl ?_;repeat'(first|refine gU ?_|refine gW hf ?_|refine gW hsp ?_|refine gX (j1e 22) ?_)<;>conv=>whnf
       try refine jew hcl ?_
       repeat'(first|refine gU ?_|refine gW (hc _) ?_|refine gX (j1e 15) ?_|refine j01 hsm fun _=>?_|apply gK)<;>conv=>whnf
       all_goals exact gJ
     ·have hsm:=jp8 x _ hxT n1;simp only[bnd,jq4 t1 n1] at q2;cases q2;show Fr _ _ _ _ _ (.pan (j1T 15)) (l1-1)
      rcases hcase with⟨⟨a,b,rfl⟩|⟨a,b,c,d,e,f,rfl⟩,hc⟩|⟨rfl,⟨a,b,rfl⟩,hc⟩
      ·refine j00 Tryz.func277 rfl rfl rfl ?_;repeat'(first|refine gU ?_|refine gW hf ?_|refine gW hsp ?_|refine gX (j1e 22) ?_)<;>conv=>whnf
       try refine jew hcl ?_
       repeat'(first|refine gU ?_|refine gX hc ?_|refine gX (j1e 15) ?_|refine j1m hsm fun _=>?_|apply gK)<;>conv=>whnf
       all_goals exact gJ
      ·refine j00 Tryz.func277 rfl rfl rfl ?_;repeat'(first|refine gU ?_|refine gW hf ?_|refine gW hsp ?_|refine gX (j1e 22) ?_)<;>conv=>whnf
       try refine jew hcl ?_
       repeat'(first|refine gU ?_|refine gX hc ?_|refine gX (j1e 15) ?_|refine j1m hsm fun _=>?_|apply gK)<;>conv=>whnf
       all_goals exact gJ
      ·refine j00 Tryz.func277 rfl rfl rfl ?_;repeat'(first|refine gU ?_|refine gW hf ?_|refine gW hsp ?_|refine gX (j1e 22) ?_)<;>conv=>whnf
       try refine jew hcl ?_
       repeat'(first|refine gU ?_|refine gW (hc _) ?_|refine gX (j1e 15) ?_|refine j1m hsm fun _=>?_|apply gK)<;>conv=>whnf
       all_goals exact gJ
   ·have hsn:=jf0 cs tot l1 (by omega)
    simp only[bnd,jsx t1] at q2;cases q2;show Fr _ _ _ _ _ (.pan (j1T 22)) _
    rcases hcase with⟨⟨a,b,rfl⟩|⟨a,b,c,d,e,f,rfl⟩,hc⟩|⟨rfl,⟨a,b,rfl⟩,hc⟩
    ·refine j00 Tryz.func277 rfl rfl rfl ?_;repeat'(first|refine gU ?_|refine gW hf ?_|refine gW hsn ?_|refine j0y (j4o 22) rfl rfl ?_)<;>conv=>whnf
     all_goals exact gJ
    ·refine j00 Tryz.func277 rfl rfl rfl ?_;repeat'(first|refine gU ?_|refine gW hf ?_|refine gW hsn ?_|refine j0y (j4o 22) rfl rfl ?_)<;>conv=>whnf
     all_goals exact gJ
    ·refine j00 Tryz.func277 rfl rfl rfl ?_;repeat'(first|refine gU ?_|refine gW hf ?_|refine gW hsn ?_|refine j0y (j4o 22) rfl rfl ?_)<;>conv=>whnf
     all_goals exact gJ
theorem jpI(E:Nv)(cs:List PV)(hE:NvP E (.cp cs))(tot:Int)(ht:tot≤1048576):∀n,jfc cs tot (j7y E n):=by
 intro n
 induction n using Nat.strongRecOn with
 |_ n ih=>
 intro t v h hs hsz l r l' h0 h1 hx;have hrun:Finds C1 236 [.bp 0 0,v] [runB cs tot l] fun r' st'=>st'=[runB cs tot l']∧(match r with
   | .ok x=>shT x=true∧sizT x≤2000∧∃w,TmP x w∧r'=.ret [w]
   | .error e=>r'=.pan (j1T e)):=by
  obtain⟨k1,n1,s1,ls1,t1,b1,z1,x1,c1,y1,ys1,rfl,rfl,-⟩:=h.open;refine j00 Tryz.func236 rfl rfl rfl ?_;all_goals try conv=>whnf
  refine j03 (G:=Nat×Tm×List PV×Int) (fun g=>[]) (fun g=>[runB cs tot g.2.2.2,.box 25 g.2.2.1,.box 25 zTm]) (fun g=>g.1≤n∧TmP g.2.1 (.ag g.2.2.1)∧shT g.2.1=true∧sizT g.2.1≤2000∧0≤g.2.2.2∧g.2.2.2≤tot∧j7y E g.1 g.2.1 g.2.2.2=some (r,l')) (fun g=>g.1) (n,_,_,l) ⟨Nat.le_refl n,h,hs,hsz,h0,h1,hx⟩ rfl rfl ?_
  rintro⟨m,t,vs,l⟩ ⟨hm,hT,hs,hsz,h0,h1,hx⟩;dsimp only at hm hT hs hsz h0 h1 hx⊢;cases m with
  |zero=>cases hx
  |succ m=>
   rw[jcS] at hx;have hst:=fun r l'=>jqM E cs hE tot ht (j7y E m) (j6d m) (ih m (by omega)) t _ hT hs hsz l r l' h0 h1
   obtain⟨k2,n2,s2,ls2,t2,b2,z2,x2,c2,y2,ys2,-,hvs,-⟩:=hT.open;cases hvs;rcases jkX hx with⟨e,q1,rfl⟩|⟨q1,rfl⟩|⟨k,x,l1,q1,q2⟩
   ·have hf:Fr 277 _ cs tot l (.pan (j1T e)) l':=hst _ _ q1;repeat'(first|refine gW hf ?_)<;>conv=>whnf
    all_goals exact gJ
   ·have hf:Fr 277 _ cs tot l (.ret [_,iv 0]) l':=hst _ _ q1;repeat'(first|refine gU ?_|refine gW hf ?_)<;>conv=>whnf
    all_goals exact⟨rfl,hs,hsz,_,hT,rfl⟩
   ·obtain⟨hk0,hsx,hzx,w,hw,hf⟩:=hst _ _ q1;obtain⟨hl0,hl1⟩:=(j06 (j8c (E:=E) (j6d m) t) (f:=fun r=>match r with
     |none=>mok none
     |some (k,o)=>bnd (j7B o) fun x=>mok (some (k,x))) fun r=>(match r with
     |none=>j0o _
     |some (k,o)=>j06 (jg2 o) fun x=>j0o _)).dn l _ l1 h0 q1
    cases hw.c;repeat'(first|refine gU ?_|refine gW hf ?_)<;>conv=>whnf
    exact VAgain.mk _ rfl _ (j0a rfl rfl rfl) ⟨(m,x,_,l1),⟨by dsimp only;omega,hw,hsx,hzx,hl0,by dsimp only;omega,q2⟩,by dsimp only;omega,rfl⟩
 obtain⟨r',st',⟨rfl,hq⟩,N,hN⟩:=hrun;cases r with
 |ok x=>
  obtain⟨hsx,hzx,w,hw,rfl⟩:=hq;exact⟨fun y hy=>(by cases hy;exact⟨hsx,hzx⟩),w,hw,⟨_,_,⟨rfl,rfl⟩,N,hN⟩⟩
 |error e=>
  obtain rfl:=hq;exact⟨fun y hy=>(by cases hy),⟨_,_,⟨rfl,rfl⟩,N,hN⟩⟩
open Go Go.Am Go.Gw
theorem jrj{x:Nat}:j0j C1.P .eql 20 (.tmp x) (.const .nilIface) (.sc .nilIface) (.sc .nilIface)=some (bv true):=by kernel_rfl
theorem jrk{x y:Operand}{t:TypeId}:j0j C1.P .eql 20 x y (.ifc t v) (.sc .nilIface)=some (bv false):=by kernel_rfl
theorem jc5(e:Int)(e0:Int):Finds C1 274 [j1T e,.bp 0 0,.bp 1 0] [.box 25 zTm,.box 30 [iv e0]] fun r st=>r=.ret []∧st=[.box 25 zTm,.box 30 [iv e]]:=by
 refine j00 Tryz.func274 rfl rfl rfl ?_;repeat'(first|refine gU ?_|refine VRes.mk _ jrk ?_)<;>conv=>whnf
 all_goals first|exact⟨rfl,rfl⟩|trace_state
theorem jix(k n:Int)(s:List UInt8)(b:Bool)(z:Nat)(xs:List PV)(c:Bool)(y:Nat)(ys:List PV)(e0:Int):Finds C1 274 [.sc .nilIface,.bp 0 0,.bp 1 0] [.box 25 [iv k,iv n,sv s,.sl b z xs,.sl c y ys],.box 30 [iv e0]] fun r st=>r=.ret []∧st=[.box 25 [iv k,iv n,sv s,.sl b z xs,.sl c y ys],.box 30 [iv e0]]:=by
 refine j00 Tryz.func274 rfl rfl rfl ?_;repeat'(first|refine gU ?_|refine VRes.mk _ jrj ?_)<;>conv=>whnf
 all_goals exact gJ
theorem jr1(cs:List PV)(tot l l':Int)(v:PV)(t:Tm)(h:TmP t v)(x:Tm)(w:PV)(hw:TmP x w)(hf:Fr 236 [.bp 0 0,v] cs tot l (.ret [w]) l'):Fr 235 [v,.ci [.bp 0 0]] cs tot l (.ret [encT x]) l':=by
 have ha:=j5R x w hw true 0;obtain⟨k9,n9,s9,b9,z9,x9,c9,y9,ys9,he9⟩:=j07 x;rw[he9] at ha⊢;obtain⟨k1,n1,s1,l1,t1,b1,z1,x1,c1,y1,ys1,rfl,rfl,-⟩:=h.open;obtain⟨k2,n2,s2,l2,t2,b2,z2,x2,c2,y2,ys2,rfl,rfl,-⟩:=hw.open;refine j00 Tryz.func235 rfl rfl rfl ?_;repeat'(first|refine gU ?_|refine gW hf ?_|refine gX ha ?_)<;>conv=>whnf
 all_goals exact gJ
theorem jr0(cs:List PV)(tot l l':Int)(v:PV)(t:Tm)(h:TmP t v)(e:Int)(hf:Fr 236 [.bp 0 0,v] cs tot l (.pan (j1T e)) l'):Fr 235 [v,.ci [.bp 0 0]] cs tot l (.pan (j1T e)) l':=by
 obtain⟨k1,n1,s1,l1,t1,b1,z1,x1,c1,y1,ys1,rfl,rfl,-⟩:=h.open;refine j00 Tryz.func235 rfl rfl rfl ?_;repeat'(first|refine gW hf ?_)<;>conv=>whnf
 all_goals exact gJ
def jqZ:PV:=.fn 235 [] [.ci [.bp 0 0]]
theorem jc4{g:PV}{i j:Nat}{s1 s2 s1' s2':SO}(h:Finds C1 f [g,.bp 0 0,.bp 1 0] [s1,s2] fun r st=>r=.ret []∧st=[s1',s2'])(hw:handed C1 f [g,.bp i 0,.bp j 0] st=some ([g,.bp i 0,.bp j 0],st))(hπ:(close st 64 ([g,.bp i 0,.bp j 0].flatMap (ids 8)) []).reverse=[i,j])(hi:[g,.bp i 0,.bp j 0].all (j0e (fun q=>[i,j].elem q) 8)=true)
  (hf:fetch (fun q=>place q 0 [i,j]) (fun q=>[i,j].elem q) st [i,j]=some [s1,s2]) (ha:[g,.bp i 0,.bp j 0].map (j1n (fun q=>place q 0 [i,j]) 8)=[g,.bp 0 0,.bp 1 0]) (h1:soIn (fun q=>Nat.blt q 2) s1'=true) (h2:soIn (fun q=>Nat.blt q 2) s2'=true) (k:K (.ret []) (j2f (back [i,j] st.length) [i,j] [s1',s2'] st)):VCall C1 f [g,.bp i 0,.bp j 0] st K:=by
 refine j0F hw (by simp only[List.all_cons,show pur 8 (.bp i 0)=false from rfl,Bool.false_and,Bool.and_false]) hπ hi hf ha (Finds.mono h ?_)
 rintro _ _ ⟨rfl,rfl⟩;refine j1Y ?_ ?_
 ·simp only[List.length_cons,List.length_nil,List.all_cons,List.all_nil,h1,h2];rfl
 ·have e:(j2f (back [i,j] st.length) [i,j] [s1',s2'] st)++[]=j2f (back [i,j] st.length) [i,j] [s1',s2'] st:=List.append_nil _;rw[←e] at k;exact k
theorem jqY(cs:List PV)(tot l:Int)(v:PV)(t:Tm)(h:TmP t v)(hp:jbs t=false):Fr 234 [.bp 0 0,v,jqZ] cs tot l (.ret [.ag zTm,iv 10]) l:=by
 obtain⟨b,z,ys,hk⟩:=j6t t v h;rw[hp] at hk;have hc:=jc5 10 0;obtain⟨k1,n1,s1,l1,t1,b1,z1,x1,c1,y1,ys1,rfl,rfl,-⟩:=h.open;refine j0J Tryz.func234 rfl rfl rfl ?_;repeat'(first|refine gX hk ?_|refine j0y (j4o 10) rfl rfl ?_)<;>conv=>whnf
 refine⟨_,_,_,_,_,_,rfl,rfl,rfl,rfl,?_⟩;repeat'(first|refine gU ?_|refine jc4 hc rfl rfl rfl rfl rfl rfl rfl ?_)<;>conv=>whnf
 all_goals exact gJ
theorem jtV(cs:List PV)(tot l l' e:Int)(v:PV)(t:Tm)(h:TmP t v)(hp:jbs t=true)(hf:Fr 235 [v,.ci [.bp 0 0]] cs tot l (.pan (j1T e)) l'):Fr 234 [.bp 0 0,v,jqZ] cs tot l (.ret [.ag zTm,iv e]) l':=by
 obtain⟨b,z,ys,hk⟩:=j6t t v h;rw[hp] at hk;have hc:=jc5 e 0;obtain⟨k1,n1,s1,l1,t1,b1,z1,x1,c1,y1,ys1,rfl,rfl,-⟩:=h.open;refine j0J Tryz.func234 rfl rfl rfl ?_;repeat'(first|refine gX hk ?_|refine gX (j1e 10) ?_|refine gW hf ?_)<;>conv=>whnf
 refine⟨_,_,_,_,_,_,rfl,rfl,rfl,rfl,?_⟩;repeat'(first|refine gU ?_|refine jc4 hc rfl rfl rfl rfl rfl rfl rfl ?_)<;>conv=>whnf
 all_goals exact gJ
theorem jtW(cs:List PV)(tot l l':Int)(v:PV)(t:Tm)(h:TmP t v)(hp:jbs t=true)(x:Tm)(hf:Fr 235 [v,.ci [.bp 0 0]] cs tot l (.ret [encT x]) l'):Fr 234 [.bp 0 0,v,jqZ] cs tot l (.ret [encT x,iv 0]) l':=by
 obtain⟨b,z,ys,hk⟩:=j6t t v h;rw[hp] at hk;obtain⟨k9,n9,s9,b9,z9,x9,c9,y9,ys9,he9⟩:=j07 x;rw[he9] at hf⊢;have hc:=jix k9 n9 s9 b9 z9 x9 c9 y9 ys9 0;obtain⟨k1,n1,s1,l1,t1,b1,z1,x1,c1,y1,ys1,rfl,rfl,-⟩:=h.open;refine j0J Tryz.func234 rfl rfl rfl ?_;repeat'(first|refine gU ?_|refine gX hk ?_|refine gX (j1e 10) ?_|refine gW hf ?_)<;>conv=>whnf
 refine⟨_,_,_,_,_,_,rfl,rfl,rfl,rfl,?_⟩;repeat'(first|refine gU ?_|refine jc4 hc rfl rfl rfl rfl rfl rfl rfl ?_)<;>conv=>whnf
 all_goals exact gJ
theorem j8J{args args':List PV}{r:AEnd}{st1:Sto}(hw:handed C1 f args st=some (args',st1))(h:Fr f args' cs tot l r l')(hp:args'.all (pur 8)=false)(hπ:(close st1 64 (args'.flatMap (ids 8)) []).reverse=[0])(hi:args'.all (j0e (fun i=>[0].elem i) 8)=true)
  (hf:fetch (fun i=>place i 0 [0]) (fun i=>[0].elem i) st1 [0]=some [runB cs tot l]) (ha:args'.map (j1n (fun i=>place i 0 [0]) 8)=args') (hb:jck (fun j=>Nat.blt j 1) r=true) (k:K (j5O (back [0] st1.length) r) (st1.set 0 (runB cs tot l'))):VCall C1 f args st K:=by
 refine j0F hw hp hπ hi hf ha (Finds.mono h ?_);rintro _ _ ⟨rfl,rfl⟩;refine j1Y ?_ ?_
 ·simp only[List.length_cons,List.length_nil,Nat.zero_add,hb,Bool.true_and];rfl
 ·have e:(st1.set 0 (runB cs tot l'))++[]=st1.set 0 (runB cs tot l'):=List.append_nil _;rw[←e] at k;exact k
theorem jc6(cs:List PV)(tot l l':Int)(v:PV)(t:Tm)(h:TmP t v)(x:Tm)(e:Int)(hf:Fr 234 [.bp 0 0,v,jqZ] cs tot l (.ret [encT x,iv e]) l'):Fr 178 [.bp 0 0,v] cs tot l (.ret [encT x,iv e]) l':=by
 obtain⟨k9,n9,s9,b9,z9,x9,c9,y9,ys9,he9⟩:=j07 x;rw[he9] at hf⊢;obtain⟨k1,n1,s1,l1,t1,b1,z1,x1,c1,y1,ys1,-,rfl,-⟩:=h.open;refine j00 Tryz.func178 rfl rfl rfl ?_;all_goals try conv=>whnf
 refine j8J (st1:=[runB cs tot l,.frz [.bp 0 0],.box 25 [iv k1,iv n1,sv s1,.sl b1 z1 x1,.sl c1 y1 ys1],.box 25 zTm]) rfl hf rfl rfl rfl rfl rfl rfl ?_;repeat'(refine gU ?_)<;>conv=>whnf
 all_goals exact gJ
theorem j7K(E:Nv)(cs:List PV)(hE:NvP E (.cp cs))(tot:Int)(ht:tot≤1048576)(n:Nat)(t:Tm)(v:PV)(h:TmP t v)(l:Int)(r:Except Int Tm)(l':Int)(h0:0≤l)(h1:l≤tot)(hx:j3w E n t l=some (r,l')):(∀x,r=.ok x→shT x=true∧sizT x≤2000∧TmW x)∧Fr 178 [.bp 0 0,v] cs tot l (.ret (errV r)) l':=by
 unfold j3w at hx;rcases j09 hx with⟨e,q1,rfl⟩|⟨u0,la,q1,q2⟩
 ·obtain⟨rfl,d2⟩:=j1q q1;rcases d2 with⟨-,d2⟩|⟨d1,d2⟩
  ·cases d2
  ·cases d2;exact⟨fun x hx=>(by cases hx),jc6 cs tot l' l' v t h tz 10 (jqY cs tot l' v t h d1)⟩
 ·obtain⟨rfl,d2⟩:=j1q q1;rcases d2 with⟨d1,-⟩|⟨-,d2⟩
  rotate_left
  ·cases d2
  have hp:j0w t 4 1099511627776=true:=by
   have:=d1;unfold jbs at this;rw[Bool.and_eq_true] at this;exact this.1
  obtain⟨hs,hf⟩:=jpI E cs hE tot ht n t v h (j6z hp) (j3i (j3k hp).2.2.1) la r l' h0 h1 q2;cases r with
  |error e=>
   exact⟨fun x hx=>(by cases hx),jc6 cs tot la l' v t h tz e (jtV cs tot la l' e v t h d1 (jr0 cs tot la l' v t h e hf))⟩
  |ok x=>
   obtain⟨w,hw,hf⟩:=hf;refine⟨fun y hy=>?_,jc6 cs tot la l' v t h x 0 (jtW cs tot la l' v t h d1 x (jr1 cs tot la l' v t h x w hw hf))⟩
   cases hy;exact⟨(hs x rfl).1,(hs x rfl).2,hw.w⟩
open Go Go.Am Go.Gw
def j0f(e:Int):PV:=.ifc 177 (.ag [iv e])
theorem j2i(e:Int):Pf C1 141 [bv true,iv e] []:=by
 refine j00 Tryz.func141 rfl rfl rfl ?_;repeat'(refine gU ?_)<;>conv=>whnf
 all_goals rfl
theorem j2w(e:Int):Finds C1 141 [bv false,iv e] [] fun r _=>r=.pan (j0f e):=by
 refine j00 Tryz.func141 rfl rfl rfl ?_;repeat'(refine gU ?_)<;>conv=>whnf
 all_goals rfl
theorem jo8(t:Tm)(v:PV)(h:TmP t v):Pf C1 154 [v,iv 0] [v]:=by
 obtain⟨k1,n1,s1,l1,t1,b1,z1,x1,c1,y1,ys1,rfl,rfl,-⟩:=h.open;refine j00 Tryz.func154 rfl rfl rfl ?_;repeat'(first|refine gU ?_|refine gX (j2i 0) ?_)<;>conv=>whnf
 all_goals first|rfl|(exfalso;omega)
theorem jo7(t:Tm)(v:PV)(h:TmP t v)(e:Int)(he:¬e=0):Finds C1 154 [v,iv e] [] fun r _=>r=.pan (j0f e):=by
 have hn:Finds C1 141 [bv (decide (e=0)),iv e] [] fun r _=>r=.pan (j0f e):=by
  rw[decide_eq_false he];exact j2w e
 obtain⟨k1,n1,s1,l1,t1,b1,z1,x1,c1,y1,ys1,rfl,rfl,-⟩:=h.open;refine j00 Tryz.func154 rfl rfl rfl ?_;repeat'(first|refine j0y hn rfl rfl ?_)<;>conv=>whnf
 all_goals rfl
theorem jsf(t:Tm)(v:PV)(h:TmP t v)(hn:j0v t≤2000):Pf C1 149 [v,bv true] [v]:=by
 have h1:=j1X t v h;have h2:Pf C1 141 [bv (decide (j0v t≤2000)),iv 15] []:=by
  rw[decide_eq_true hn];exact j2i 15
 obtain⟨k1,n1,s1,l1,t1,b1,z1,x1,c1,y1,ys1,rfl,rfl,-⟩:=h.open;refine j00 Tryz.func149 rfl rfl rfl ?_;repeat'(first|refine gU ?_|refine gX h1 ?_|refine gX h2 ?_)<;>conv=>whnf
 all_goals rfl
theorem jpE(t:Tm)(v:PV)(h:TmP t v)(hn:¬j0v t≤2000):Finds C1 149 [v,bv true] [] fun r _=>r=.pan (j0f 15):=by
 have h1:=j1X t v h;have h2:Finds C1 141 [bv (decide (j0v t≤2000)),iv 15] [] fun r _=>r=.pan (j0f 15):=by
  rw[decide_eq_false hn];exact j2w 15
 obtain⟨k1,n1,s1,l1,t1,b1,z1,x1,c1,y1,ys1,rfl,rfl,-⟩:=h.open;refine j00 Tryz.func149 rfl rfl rfl ?_;repeat'(first|refine gU ?_|refine gX h1 ?_|refine j0y h2 rfl rfl ?_)<;>conv=>whnf
 all_goals rfl
theorem jse(t:Tm)(v:PV)(h:TmP t v):Finds C1 149 [v,bv false] [] fun r _=>r=.pan (j0f 15):=by
 obtain⟨k1,n1,s1,l1,t1,b1,z1,x1,c1,y1,ys1,rfl,rfl,-⟩:=h.open;refine j00 Tryz.func149 rfl rfl rfl ?_;repeat'(first|refine gU ?_|refine j0y (j2w 15) rfl rfl ?_)<;>conv=>whnf
 all_goals rfl
theorem jmN(l:Lv)(v:PV)(h:LvP l v)(hr:j0x l 4=true):Pf C1 152 [v] [v]:=by
 have h1:=j2D l v h 4;rw[hr] at h1;obtain⟨k1,n1,l1,b1,z1,x1,rfl,rfl,-⟩:=h.open;refine j00 Tryz.func152 rfl rfl rfl ?_;repeat'(first|refine gU ?_|refine gX h1 ?_|refine gX (j2i 15) ?_)<;>conv=>whnf
 all_goals rfl
theorem jmM(l:Lv)(v:PV)(h:LvP l v)(hr:j0x l 4=false):Finds C1 152 [v] [] fun r _=>r=.pan (j0f 15):=by
 have h1:=j2D l v h 4;rw[hr] at h1;obtain⟨k1,n1,l1,b1,z1,x1,rfl,rfl,-⟩:=h.open;refine j00 Tryz.func152 rfl rfl rfl ?_;repeat'(first|refine gX h1 ?_|refine j0y (j2w 15) rfl rfl ?_)<;>conv=>whnf
 all_goals rfl
theorem j7V(cs:List PV)(tot l:Int)(h1:1≤l)(h2:l≤tot)(h3:tot≤1048576):Fr 143 [.ci [.bp 0 0]] cs tot l (.ret []) (l-1):=by
 have hs:=jf1 cs tot l h1 h2 h3;refine j00 Tryz.func143 rfl rfl rfl ?_;repeat'(first|refine gU ?_|refine gW hs ?_|refine gX (j2i 22) ?_)<;>conv=>whnf
 all_goals exact gJ
theorem jab(cs:List PV)(tot l:Int)(h1:l<1):Fr 143 [.ci [.bp 0 0]] cs tot l (.pan (j0f 22)) l:=by
 have hs:=jf0 cs tot l h1;refine j00 Tryz.func143 rfl rfl rfl ?_;repeat'(first|refine gW hs ?_|refine j0y (j2w 22) rfl rfl ?_)<;>conv=>whnf
 all_goals exact gJ
def CtxP(ctx:List Tm)(v:PV):Prop:=∃b z xs,v=.sl b z xs∧(z=5∨(xs=[]∧b=true∧z=0))∧TmsP ctx xs∧ctx.length≤64∧∀t∈ctx,shT t=true
theorem jsY(ctx:List Tm)(cv:PV)(hc:CtxP ctx cv)(t:Tm)(v:PV)(h:TmP t v)(hs:shT t=true)(hl:ctx.length<64):∃w,CtxP (ctx++[t]) w∧Pf C1 159 [cv,v] [w]:=by
 obtain⟨b,z,xs,rfl,hz,hxs,h64,hsh⟩:=hc;have hlen:=hxs.len;have hn:Pf C1 141 [bv (decide ((xs.length:Int)<64)),iv 15] []:=by
  rw[decide_eq_true (by omega)]
  exact j2i 15
 refine⟨.sl false 5 (xs++[v]),⟨_,_,_,rfl,.inl rfl,hxs.append ⟨v,[],rfl,h,rfl⟩,by simp;omega,fun x hx=>?_⟩,?_⟩
 ·rcases List.mem_append.1 hx with hx|hx
  ·exact hsh x hx
  ·rw[List.mem_singleton.1 hx];exact hs
 ·have hp6:(xs++[v]).all (pur 6)=true:=(hxs.append ⟨v,[],rfl,h,rfl⟩:TmsP (ctx++[t]) _).pure6;obtain⟨k1,n1,s1,l1,t1,b1,z1,x1,c1,y1,ys1,rfl,rfl,-⟩:=h.open;have ho1:(xs.length.ble xs.length&&Nat.ble 0 xs.length)=true:=by simp
  have ho2:Nat.beq xs.length xs.length=true:=by simp
  rcases hz with rfl|⟨rfl,rfl,rfl⟩
  ·refine j00 Tryz.func159 rfl rfl rfl ?_;repeat'(first|refine gU ?_|refine gX hn ?_|refine VOk.mk ho1 ?_|refine VOk.mk ho2 ?_|refine VOk.mk (jec (w:=80) (r:=140737488355328) rfl rfl rfl (by simp;omega) (by simp;omega)) ?_)<;>conv=>whnf
   have hx:(xs.take xs.length).drop 0++[.ag [iv k1,iv n1,sv s1,.sl b1 z1 x1,.sl c1 y1 ys1]]=xs++[.ag [iv k1,iv n1,sv s1,.sl b1 z1 x1,.sl c1 y1 ys1]]:=by rw[List.take_length];rfl
   refine j0n rfl (j04 (j0D rfl (by simp) (by rw[←hx] at hp6;exact hp6)) j0m) rfl ?_
   rw[←hx];rfl
  ·refine j00 Tryz.func159 rfl rfl rfl ?_;repeat'(first|refine gU ?_|refine gX hn ?_)<;>conv=>whnf
   exact j0n rfl (j04 (j0D rfl rfl hp6) j0m) rfl rfl
theorem jsX(ctx:List Tm)(cv:PV)(hc:CtxP ctx cv)(t:Tm)(v:PV)(h:TmP t v)(hl:¬ctx.length<64):Finds C1 159 [cv,v] [] fun r _=>r=.pan (j0f 15):=by
 obtain⟨b,z,xs,rfl,hz,hxs,h64,hsh⟩:=hc;have hlen:=hxs.len;have hn:Finds C1 141 [bv (decide ((xs.length:Int)<64)),iv 15] [] fun r _=>r=.pan (j0f 15):=by
  rw[decide_eq_false (by omega)]
  exact j2w 15
 obtain⟨k1,n1,s1,l1,t1,b1,z1,x1,c1,y1,ys1,rfl,rfl,-⟩:=h.open;refine j00 Tryz.func159 rfl rfl rfl ?_;repeat'(first|refine j0y hn rfl rfl ?_)<;>conv=>whnf
 all_goals rfl
theorem j2v(o:Option Tm)(wo:PV)(h:TmP (o.getD tz) wo)(hx:j4C o l=some (r,l')):l'=l∧match r with
  | .ok x=>o=some x∧sizT x≤2000∧Pf C1 149 [wo,bv o.isSome] [wo]
  | .error e=>e=15∧Finds C1 149 [wo,bv o.isSome] [] fun r _=>r=.pan (j0f 15):=by
 cases o with
 |none=>
  cases hx;exact⟨rfl,rfl,jse _ _ h⟩
 |some x=>
  simp only[j4C,bnd,optF,mok] at hx
  by_cases hn:j0v x≤2000
  ·rw[decide_eq_true hn] at hx;cases hx;exact⟨rfl,rfl,j3i hn,jsf _ _ h hn⟩
  ·rw[decide_eq_false hn] at hx;cases hx;exact⟨rfl,rfl,jpE _ _ h hn⟩
theorem jdY(lv:Lv)(v:PV)(h:LvP lv v){r:Except Int Lv}(hx:j6B lv l=some (r,l')):l'=l∧match r with
  | .ok x=>x=lv∧j0x lv 4=true∧Pf C1 152 [v] [v]
  | .error e=>e=15∧Finds C1 152 [v] [] fun r _=>r=.pan (j0f 15):=by
 unfold j6B at hx;cases hr:j0x lv 4 with
 |true=>
  rw[hr] at hx;cases hx;exact⟨rfl,rfl,rfl,jmN _ _ h hr⟩
 |false=>
  rw[hr] at hx;cases hx;exact⟨rfl,rfl,jmM _ _ h hr⟩
theorem j3b(ctx:List Tm)(cv:PV)(hc:CtxP ctx cv)(t:Tm)(v:PV)(h:TmP t v)(hs:shT t=true){r:Except Int (List Tm)}(hx:j8M ctx t l=some (r,l')):l'=l∧match r with
  | .ok c2=>c2=ctx++[t]∧∃w,CtxP c2 w∧Pf C1 159 [cv,v] [w]
  | .error e=>e=15∧Finds C1 159 [cv,v] [] fun r _=>r=.pan (j0f 15):=by
 unfold j8M at hx
 by_cases hl:ctx.length<64
 ·rw[decide_eq_true hl] at hx;cases hx;exact⟨rfl,rfl,jsY _ _ hc _ _ h hs hl⟩
 ·rw[decide_eq_false hl] at hx;cases hx;exact⟨rfl,rfl,jsX _ _ hc _ _ h hl⟩
open Go Go.Am Go.Gw
def CrT(f:FuncId)(args cs:List PV)(tot l:Int)(r:Except Int Tm)(l':Int):Prop:=match r with
 | .ok x=>∃w,TmP x w∧Fr f args cs tot l (.ret [w]) l'
 | .error e=>Fr f args cs tot l (.pan (j0f e)) l'
def CrL(f:FuncId)(args cs:List PV)(tot l:Int)(r:Except Int Lv)(l':Int):Prop:=match r with
 | .ok x=>∃w,LvP x w∧Fr f args cs tot l (.ret [w]) l'
 | .error e=>Fr f args cs tot l (.pan (j0f e)) l'
def WOk(cs:List PV)(tot:Int)(W:Tm→M Tm):Prop:=∀t v,TmP t v→∀l r l',0≤l→l≤tot→W t l=some (r,l')→(∀x,r=.ok x→shT x=true∧sizT x≤2000)∧CrT 146 [.ci [.bp 0 0],v] cs tot l r l'
def jcc(cs:List PV)(tot:Int)(T:List Tm→Tm→M Tm):Prop:=∀ctx cv,CtxP ctx cv→∀t v,TmP t v→shT t=true→∀l r l',0≤l→l≤tot→T ctx t l=some (r,l')→(∀x,r=.ok x→shT x=true∧sizT x≤2000)∧CrT 91 [.ci [.bp 0 0],cv,v] cs tot l r l'
def jra(cs:List PV)(tot:Int)(T:List Tm→Tm→M Lv):Prop:=∀ctx cv,CtxP ctx cv→∀t v,TmP t v→shT t=true→∀l r l',0≤l→l≤tot→T ctx t l=some (r,l')→CrL 98 [.ci [.bp 0 0],cv,v] cs tot l r l'
theorem jfI(ht:tot≤1048576){W:Tm→M Tm}{T:List Tm→Tm→M Tm}(hW:WOk cs tot W)(hT:jcc cs tot T)(fW:∀t,Fine (W t))(fT:∀c t,Fine (T c t)):jra cs tot (sortB W T):=by
 intro ctx cv hc t v h hs l r l' h0 h1 hx;have hc':=hc;obtain⟨b,z,xs,rfl,-⟩:=hc';have h':=h;cases h'.c;unfold sortB at hx;rcases j09 hx with⟨e,q1,rfl⟩|⟨u0,la,q1,q2⟩
 ·rcases j1d q1 with⟨a1,a2,a3⟩|⟨a1,a2,a3⟩
  ·cases a3
  ·cases a3;subst a2;have hk:=jab cs tot l' a1;show Fr _ _ _ _ _ (.pan (j0f 22)) l'
   refine j00 Tryz.func98 rfl rfl rfl ?_;repeat'(first|refine gW hk ?_)<;>conv=>whnf
   all_goals exact gJ
 rcases j1d q1 with⟨a1,a2,a3⟩|⟨a1,a2,a3⟩
 rotate_left
 ·cases a3
 subst a2;have hk:=j7V cs tot l a1 h1 ht;rcases j09 q2 with⟨e,q3,rfl⟩|⟨y,lb,q3,q4⟩
 ·obtain⟨-,hf⟩:=hT ctx _ hc t _ h hs (l-1) _ l' (by omega) (by omega) q3
  have hf:Fr _ _ _ _ _ (.pan (j0f e)) l':=hf;show Fr _ _ _ _ _ (.pan (j0f e)) l'
  refine j00 Tryz.func98 rfl rfl rfl ?_;repeat'(first|refine gW hk ?_|refine gW hf ?_)<;>conv=>whnf
  all_goals exact gJ
 obtain⟨hy,wy,hwy,hf⟩:=hT ctx _ hc t _ h hs (l-1) _ lb (by omega) (by omega) q3
 have hlb:=(fT ctx t).dn (l-1) _ lb (by omega) q3
 cases hwy.c;rcases j09 q4 with⟨e,q5,rfl⟩|⟨s,lc,q5,q6⟩
 ·obtain⟨-,hg⟩:=hW y _ hwy lb _ l' (by omega) (by omega) q5
  have hg:Fr _ _ _ _ _ (.pan (j0f e)) l':=hg;show Fr _ _ _ _ _ (.pan (j0f e)) l'
  refine j00 Tryz.func98 rfl rfl rfl ?_;repeat'(first|refine gW hk ?_|refine gW hf ?_|refine gW hg ?_)<;>conv=>whnf
  all_goals exact gJ
 obtain⟨hs2,ws,hws,hg⟩:=hW y _ hwy lb _ lc (by omega) (by omega) q5
 obtain⟨k3,n3,s3,l3,t3,b3,z3,x3,c3,y3,ys3,e3,rfl,hz3,hx3,-⟩:=hws.open;subst e3;have ek:(Tm.mk k3 n3 s3 l3 t3).kind=k3:=rfl;rw[ek] at q6
 by_cases hk3:k3=2
 ·rw[decide_eq_true hk3] at q6;cases q6;have hln:l3.length=1:=by
   have:=(j0s (hs2 _ rfl).1).2.2.2.1 (by omega)
   subst hk3;have e:j0O 2=1:=rfl;omega
  obtain⟨vl,hvl,hl⟩:=hx3.at (show l3[0]?=some (l3.getD 0 (.mk 0 0 [])) by rw[List.getD_eq_getElem?_getD,List.getElem?_eq_getElem (by omega)];rfl)
  refine⟨vl,hl,?_⟩;cases hl.c;have hn:Pf C1 141 [bv (decide (k3=2)),iv 19] []:=by
   rw[decide_eq_true hk3];exact j2i 19
  refine j00 Tryz.func98 rfl rfl rfl ?_;repeat'(first|refine gU ?_|refine gW hk ?_|refine gW hf ?_|refine gW hg ?_|refine gX hn ?_|refine VIdx.mk _ hvl ?_|refine gZ hz3 ?_)<;>conv=>whnf
  all_goals exact gJ
 ·rw[decide_eq_false hk3] at q6;cases q6;have hn:Finds C1 141 [bv (decide (k3=2)),iv 19] [] fun r _=>r=.pan (j0f 19):=by
   rw[decide_eq_false hk3];exact j2w 19
  show Fr _ _ _ _ _ (.pan (j0f 19)) _
  refine j00 Tryz.func98 rfl rfl rfl ?_;repeat'(first|refine gU ?_|refine gW hk ?_|refine gW hf ?_|refine gW hg ?_|refine j0y hn rfl rfl ?_)<;>conv=>whnf
  all_goals exact gJ
open Go Go.Am Go.Gw
def typK(E:Nv)(W:Tm→M Tm)(T:List Tm→Tm→M Tm)(ctx:List Tm)(t:Tm):M Tm:=
 if t.kind=1 then bnd (j3h (decide (t.num<ctx.length)) 10) fun _=>j4C (j7c (ctx.getD ((ctx.length:Int)-1-t.num).toNat tz) (t.num+1) 0)
 else if t.kind=2 then bnd (j6B (jih t.lv)) fun l=>mok (jeW l)
 else if t.kind=3 then exF (typeAt E t.name t.levels)
 else if t.kind=4 then bnd (T ctx (t.arg 0)) fun y=>bnd (W y) fun f=>bnd (j3h (decide (f.kind=6)) 20) fun _=>j4C (InstF (f.arg 1) [t.arg 1])
 else if t.kind=5 then bnd (j8M ctx (t.arg 0)) fun c2=>bnd (T c2 (t.arg 1)) fun b=>j4C (some (overR 6 [t.arg 0] b))
 else if t.kind=6 then bnd (sortB W T ctx (t.arg 0)) fun l=>bnd (j8M ctx (t.arg 0)) fun c2=>bnd (sortB W T c2 (t.arg 1)) fun m=>bnd (j6B (j8S l m)) fun x=>mok (jeW x)
 else bnd (j4C (InstF (t.arg 2) [t.arg 1])) fun x=>T ctx x
theorem jsR(E:Nv)(W:Tm→M Tm)(T:List Tm→Tm→M Tm)(ctx:List Tm)(t:Tm):typB E W T ctx t=bnd j5G fun _=>typK E W T ctx t:=rfl
def j4Z(cs:List PV)(tot l:Int)(cv v:PV)(r:Except Int Tm)(l':Int):Prop:=(∀x,r=.ok x→shT x=true∧sizT x≤2000)∧CrT 91 [.ci [.bp 0 0],cv,v] cs tot l r l'
theorem j2I{e:Int}(h:Fr 91 [.ci [.bp 0 0],cv,v] cs tot l (.pan (j0f e)) l'):j4Z cs tot l cv v (.error e) l':=⟨fun x hx=>(by cases hx),h⟩
theorem jij{w:PV}(h1:shT x=true)(h2:sizT x≤2000)(hw:TmP x w)(h:Fr 91 [.ci [.bp 0 0],cv,v] cs tot l (.ret [w]) l'):j4Z cs tot l cv v (.ok x) l':=⟨fun x hx=>(by cases hx;exact⟨h1,h2⟩),w,hw,h⟩
theorem jlS(E:Nv)(W:Tm→M Tm)(T:List Tm→Tm→M Tm)(ctx:List Tm)(cv:PV)(hc:CtxP ctx cv)(t:Tm)(v:PV)(h:TmP t v)(hs:shT t=true)(l:Int)(hk:Fr 143 [.ci [.bp 0 0]] cs tot l (.ret []) (l-1))(hkind:t.kind=1)(r:Except Int Tm)(l':Int)(hx:typK E W T ctx t (l-1)=some (r,l')):j4Z cs tot l cv v r l':=by
 unfold typK at hx;rw[if_pos hkind] at hx;have hn0:=joE hs hkind;have h':=h;obtain⟨k1,n1,s1,l1,t1,b1,z1,x1,c1,y1,ys1,rfl,rfl,-⟩:=h'.open;obtain⟨b,z,xs,rfl,hz,hxs,h64,hsh⟩:=hc;have hlen:=hxs.len;have hz':z=5∨xs=[]:=hz.imp id (·.1)
 simp only[Tm.kind,Tm.num] at hkind hn0 hx;rcases j09 hx with⟨e,q1,rfl⟩|⟨u0,la,q1,q2⟩
 ·obtain⟨rfl,d2⟩:=j1q q1;rcases d2 with⟨-,d2⟩|⟨d1,d2⟩
  ·cases d2
  ·cases d2;have hn:Finds C1 141 [bv (decide (n1<(xs.length:Int))),iv 10] [] fun r _=>r=.pan (j0f 10):=by
    have:=of_decide_eq_false d1;rw[decide_eq_false (by omega)]
    exact j2w 10
   refine j2I ?_;refine j00 Tryz.func91 rfl rfl rfl ?_;repeat'(first|refine gU ?_|refine gW hk ?_|refine j0y hn rfl rfl ?_)<;>conv=>whnf
   all_goals exact gJ
 ·obtain⟨rfl,d2⟩:=j1q q1;rcases d2 with⟨d1,-⟩|⟨-,d2⟩
  rotate_left
  ·cases d2
  have hlt:=of_decide_eq_true d1;have hn:Pf C1 141 [bv (decide (n1<(xs.length:Int))),iv 10] []:=by
   rw[decide_eq_true (by omega)]
   exact j2i 10
  obtain⟨i,hi⟩:∃i:Nat,(ctx.length:Int)-1-n1=i:=⟨((ctx.length:Int)-1-n1).toNat,by omega⟩
  have hil:i<ctx.length:=by omega
  have ei:((i:Int)).toNat=i:=by simp
  rw[hi,ei] at q2;obtain⟨va,hva,ha⟩:=hxs.at (getD_at (ts:=ctx) (i:=i) hil);have hL:=jiD _ va ha (n1+1) 0;have hoW:TmW ((j7c (ctx.getD i tz) (n1+1) 0).getD tz):=j7k fun x hx=>jiC ha.w hx
  rw[j5B] at hL;have hoS:∀x,j7c (ctx.getD i tz) (n1+1) 0=some x→shT x=true:=fun x hx=>jiB hx
  generalize j7c (ctx.getD i tz) (n1+1) 0=o at *;obtain⟨rfl,hf⟩:=j2v o _ hoW q2;have hI:((xs.length:Int)-1-n1)=Int.ofNat i:=by rw[hlen];exact hi
  cases ha.c;unfold TmW at hoW;obtain⟨k9,n9,s9,b9,z9,x9,c9,y9,ys9,he9⟩:=j07 (o.getD tz);rw[he9] at hL hf hoW;cases r with
  |error e=>
   obtain⟨rfl,hf⟩:=hf;refine j2I ?_;refine j00 Tryz.func91 rfl rfl rfl ?_;repeat'(first|refine gU ?_|refine gW hk ?_|refine gX hn ?_|refine VNat.mk i hI ?_|refine VIdx.mk _ hva ?_|refine gZ hz' ?_|refine j01 hL fun _=>?_|refine j1m hf fun _=>?_|apply gK)<;>conv=>whnf
   all_goals exact gJ
  |ok x=>
   obtain⟨rfl,hzx,hf⟩:=hf;refine jij (hoS _ rfl) hzx hoW ?_;refine j00 Tryz.func91 rfl rfl rfl ?_;repeat'(first|refine gU ?_|refine gW hk ?_|refine gX hn ?_|refine VNat.mk i hI ?_|refine VIdx.mk _ hva ?_|refine gZ hz' ?_|refine j01 hL fun _=>?_|refine j01 hf fun _=>?_|apply gK)<;>conv=>whnf
   all_goals exact gJ
end Go.Proofs.YtbnodhcijeaceaaGreatDoor

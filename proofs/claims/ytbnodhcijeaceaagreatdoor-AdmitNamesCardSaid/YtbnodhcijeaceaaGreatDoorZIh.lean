/- A term's type (package conv): sorts, constants, applications. -/
import Derived.Test.YtbnodhcijeaceaaGreatDoorZId
set_option linter.all false
set_option maxHeartbeats 4000000
set_option maxRecDepth 100000
namespace Go.Proofs.YtbnodhcijeaceaaGreatDoor
open Go Go.Am Go.Gw
variable{tot:Int}{ls:List Lv}{cs:List PV}{S:List Tm→Tm→Tm→M Bool}{l:Lv}{i:Nat}{t:Tm}
theorem jbK(h:j0x l 4=true):sizT (jeW l)≤2000:=by
 have h1:j6r l≤64:=by
  simp only[j0x,Bool.and_eq_true,decide_eq_true_eq] at h;exact h.2.2.1
 rw[j8u] at h1;simp only[jeW,sizT,j0t,j0c];omega
theorem jeT(l:Lv):shT (jeW l)=true:=j9W (by omega) rfl (by omega) (fun _=>rfl) (by simp) (by omega)
theorem jin(E:Nv)(W:Tm→M Tm)(T:List Tm→Tm→M Tm)(ctx:List Tm)(cv:PV)(hc:CtxP ctx cv)(t:Tm)(v:PV)(h:TmP t v)(hs:shT t=true)(l:Int)(hk:Fr 143 [.ci [.bp 0 0]] cs tot l (.ret []) (l-1))(hkind:t.kind=2)(r:Except Int Tm)(l':Int)(hx:typK E W T ctx t (l-1)=some (r,l')):j4Z cs tot l cv v r l':=by
 unfold typK at hx;rw[if_neg (by omega),if_pos hkind] at hx
 have h':=h;have hc':=hc;obtain⟨b,z,xs,rfl,-⟩:=hc';obtain⟨k1,n1,s1,l1,t1,b1,z1,x1,c1,y1,ys1,rfl,rfl,hz1,hx1,-,-,hy1,hys1,-⟩:=h'.open;obtain⟨a1,a2,a3,a4,a5,a6⟩:=j0s hs;simp only[Tm.kind] at hkind;subst hkind;have hl1:l1.length=1:=by
  have:=a4 (by omega)
  have e:j0O 2=1:=rfl;omega
 obtain⟨vl,hvl,hl⟩:=hx1.at (show l1[0]?=some (l1.getD 0 (.mk 0 0 [])) by rw[List.getD_eq_getElem?_getD,List.getElem?_eq_getElem (by omega)];rfl)
 have e0:(Tm.mk 2 n1 s1 l1 t1).lv=l1.getD 0 (.mk 0 0 []):=rfl;rw[e0] at hx;have hS:=jpf _ vl hl;have hsu:LvP (jih (l1.getD 0 (.mk 0 0 []))) (encL (jih (l1.getD 0 (.mk 0 0 [])))):=jbj (by simp) (by simpa using hl.w)
 generalize jih (l1.getD 0 (.mk 0 0 []))=q at *;have hso:=jdD q _ hsu;have hsv:=jeX hsu;obtain⟨k5,n5,b5,z5,x5,he5⟩:=j0A q;unfold jlK at hso hsv;cases hl.c;rcases j09 hx with⟨e,q1,rfl⟩|⟨y,la,q1,q2⟩
 ·obtain⟨rfl,rfl,hf⟩:=jdY _ _ hsu q1;rw[he5] at hS hf;refine j2I ?_;refine j00 Tryz.func91 rfl rfl rfl ?_;repeat'(first|refine gU ?_|refine gW hk ?_|refine VIdx.mk _ hvl ?_|refine gZ hz1 ?_|refine gX hS ?_|refine j0y hf rfl rfl ?_)<;>conv=>whnf
  all_goals exact gJ
 ·obtain⟨rfl,rfl,hr,hf⟩:=jdY _ _ hsu q1;cases q2;rw[he5] at hS hf hso hsv;refine jij (jeT y) (jbK hr) hsv ?_;refine j00 Tryz.func91 rfl rfl rfl ?_;repeat'(first|refine gU ?_|refine gW hk ?_|refine VIdx.mk _ hvl ?_|refine gZ hz1 ?_|refine gX hS ?_|refine gX hf ?_|refine gX hso ?_)<;>conv=>whnf
  all_goals exact gJ
theorem jgU(E:Nv)(W:Tm→M Tm)(T:List Tm→Tm→M Tm)(hE:NvP E (.cp cs))(ctx:List Tm)(cv:PV)(hc:CtxP ctx cv)(t:Tm)(v:PV)(h:TmP t v)(hs:shT t=true)(l:Int)(hk:Fr 143 [.ci [.bp 0 0]] cs tot l (.ret []) (l-1))(hkind:t.kind=3)(r:Except Int Tm)(l':Int)(hx:typK E W T ctx t (l-1)=some (r,l')):j4Z cs tot l cv v r l':=by
 unfold typK at hx;rw[if_neg (by omega),if_neg (by omega),if_pos hkind] at hx
 have h':=h;have hc':=hc;obtain⟨b,z,xs,rfl,-⟩:=hc';obtain⟨k1,n1,s1,l1,t1,b1,z1,x1,c1,y1,ys1,rfl,rfl,hz1,hx1,-,-,hy1,hys1,-⟩:=h'.open;obtain⟨a1,a2,a3,a4,a5,a6⟩:=j0s hs;simp only[Tm.kind] at hkind;subst hkind;have e0:(Tm.mk 3 n1 s1 l1 t1).name=s1:=rfl;have e1:(Tm.mk 3 n1 s1 l1 t1).levels=l1:=rfl;rw[e0,e1] at hx;have hl4:=a3 rfl;have hT:=jhx E (.cp cs) hE s1 l1 b1 z1 x1 hz1 hx1 (by omega)
 have hen:=jlD cs tot (l-1);have hpt:=fun x=>@jgX E s1 l1 x
 have hnz:=(jgW (E:=E) s1 l1).2;unfold exF at hx;cases hx;cases hq:typeAt E s1 l1 with
 |error e=>
  rw[hq] at hT hnz;have he:¬e=0:=fun e'=>hnz (by rw[e'])
  simp only[errV] at hT;have hm:=jo7 tz (.ag zTm) j5P e he;refine j2I ?_;refine j00 Tryz.func91 rfl rfl rfl ?_;repeat'(first|refine gU ?_|refine gW hk ?_|refine gW hen ?_|refine j01 hT fun _=>?_|refine j1m hm fun _=>?_|apply gK)<;>conv=>whnf
  all_goals exact gJ
 |ok x=>
  rw[hq] at hT;obtain⟨en,p1,p2⟩:=hpt x hq;have hxw:TmW x:=jaw hx1.ws (hE.entry p1).1 p2;have hm:=jo8 x _ hxw;simp only[errV] at hT;unfold TmW at hxw;obtain⟨k9,n9,s9,b9,z9,x9,c9,y9,ys9,he9⟩:=j07 x;rw[he9] at hT hm hxw;refine jij (j8P p2) (j3i (j4Y p2).2.2) hxw ?_;refine j00 Tryz.func91 rfl rfl rfl ?_;repeat'(first|refine gU ?_|refine gW hk ?_|refine gW hen ?_|refine j01 hT fun _=>?_|refine j01 hm fun _=>?_|apply gK)<;>conv=>whnf
  all_goals exact gJ
theorem jlP(E:Nv)(W:Tm→M Tm)(T:List Tm→Tm→M Tm)(hW:WOk cs tot W)(hT:jcc cs tot T)(fW:∀t,Fine (W t))(fT:∀c t,Fine (T c t))(ctx:List Tm)(cv:PV)(hc:CtxP ctx cv)(t:Tm)(v:PV)(h:TmP t v)(hs:shT t=true)(l:Int)(h0:1≤l)(h1:l≤tot)(hk:Fr 143 [.ci [.bp 0 0]] cs tot l (.ret []) (l-1))(hkind:t.kind=4)(r:Except Int Tm)(l':Int)(hx:typK E W T ctx t (l-1)=some (r,l')):j4Z cs tot l cv v r l':=by
 unfold typK at hx;rw[if_neg (by omega),if_neg (by omega),if_neg (by omega),if_pos hkind] at hx
 have h':=h;have hc':=hc;obtain⟨b,z,xs,rfl,-⟩:=hc';obtain⟨k1,n1,s1,l1,t1,b1,z1,x1,c1,y1,ys1,rfl,rfl,hz1,hx1,-,-,hy1,hys1,-⟩:=h'.open;obtain⟨a1,a2,a3,a4,a5,a6⟩:=j0s hs;simp only[Tm.kind] at hkind;subst hkind;have hlen2:t1.length=2:=by
  have e:j1f 4=2:=rfl;omega
 obtain⟨v0,hv0,h0'⟩:=hys1.at (getD_at (ts:=t1) (i:=0) (by omega))
 obtain⟨v1,hv1,h1'⟩:=hys1.at (getD_at (ts:=t1) (i:=1) (by omega))
 have m0:t1.getD 0 tz∈t1:=List.mem_of_getElem? (getD_at (by omega))
 have m1:t1.getD 1 tz∈t1:=List.mem_of_getElem? (getD_at (by omega))
 have e0:(Tm.mk 4 n1 s1 l1 t1).arg 0=t1.getD 0 tz:=rfl;have e1:(Tm.mk 4 n1 s1 l1 t1).arg 1=t1.getD 1 tz:=rfl;rw[e0,e1] at hx;cases h0'.c;cases h1'.c;rcases j09 hx with⟨e,q1,rfl⟩|⟨y,la,q1,q2⟩
 ·obtain⟨-,hf⟩:=hT ctx _ hc _ _ h0' (a5 _ m0) (l-1) _ l' (by omega) (by omega) q1
  have hf:Fr _ _ _ _ _ (.pan (j0f e)) l':=hf;refine j2I ?_;refine j00 Tryz.func91 rfl rfl rfl ?_;repeat'(first|refine gU ?_|refine gW hk ?_|refine VIdx.mk _ hv0 ?_|refine gZ hy1 ?_|refine gW hf ?_)<;>conv=>whnf
  all_goals exact gJ
 obtain⟨hy,wy,hwy,hf⟩:=hT ctx _ hc _ _ h0' (a5 _ m0) (l-1) _ la (by omega) (by omega) q1
 have hla:=(fT ctx (t1.getD 0 tz)).dn (l-1) _ la (by omega) q1
 cases hwy.c;rcases j09 q2 with⟨e,q3,rfl⟩|⟨g,lb,q3,q4⟩
 ·obtain⟨-,hg⟩:=hW y _ hwy la _ l' (by omega) (by omega) q3
  have hg:Fr _ _ _ _ _ (.pan (j0f e)) l':=hg;refine j2I ?_;refine j00 Tryz.func91 rfl rfl rfl ?_;repeat'(first|refine gU ?_|refine gW hk ?_|refine VIdx.mk _ hv0 ?_|refine gZ hy1 ?_|refine gW hf ?_|refine gW hg ?_)<;>conv=>whnf
  all_goals exact gJ
 obtain⟨hg2,wg,hwg,hg⟩:=hW y _ hwy la _ lb (by omega) (by omega) q3
 obtain⟨hgs,hgz⟩:=hg2 g rfl;obtain⟨k5,n5,s5,l5,t5,b5,z5,x5,c5,y5,ys5,e5,rfl,-,-,-,-,hy5,hys5,-⟩:=hwg.open;subst e5;have ek:(Tm.mk k5 n5 s5 l5 t5).kind=k5:=rfl;have ea:(Tm.mk k5 n5 s5 l5 t5).arg 1=t5.getD 1 tz:=rfl;rw[ek,ea] at q4
 by_cases hk6:k5=6
 ·rw[decide_eq_true hk6] at q4;have q4:j4C (InstF (t5.getD 1 tz) [t1.getD 1 tz]) lb=some (r,l'):=q4;have hl5:t5.length=2:=by
   have:=(j0s hgs).2.1;subst hk6;have e:j1f 6=2:=rfl;omega
  obtain⟨v5,hv5,h5'⟩:=hys5.at (getD_at (ts:=t5) (i:=1) (by omega))
  have hn:Pf C1 141 [bv (decide (k5=6)),iv 20] []:=by
   rw[decide_eq_true hk6];exact j2i 20
  have hI:=j6K _ _ h5' [t1.getD 1 tz] true 5 _ (.inl rfl) ⟨_,[],rfl,h1',rfl⟩ (by simp)
  have hoW:TmW ((InstF (t5.getD 1 tz) [t1.getD 1 tz]).getD tz):=j7k fun x hx=>j8O (by simpa using h1'.w) h5'.w hx
  rw[j5B] at hI;have hoS:∀x,InstF (t5.getD 1 tz) [t1.getD 1 tz]=some x→shT x=true:=fun x hx=>j6J hx
  generalize InstF (t5.getD 1 tz) [t1.getD 1 tz]=o at *;obtain⟨rfl,hfi⟩:=j2v o _ hoW q4;cases h5'.c;unfold TmW at hoW;obtain⟨k9,n9,s9,b9,z9,x9,c9,y9,ys9,he9⟩:=j07 (o.getD tz);rw[he9] at hI hfi hoW;cases r with
  |error e=>
   obtain⟨rfl,hfi⟩:=hfi;refine j2I ?_;refine j00 Tryz.func91 rfl rfl rfl ?_;repeat'(first|refine gU ?_|refine gW hk ?_|refine VIdx.mk _ hv0 ?_|refine VIdx.mk _ hv1 ?_|refine gZ hy1 ?_|refine gW hf ?_|refine gW hg ?_|refine gX hn ?_|refine VIdx.mk _ hv5 ?_|refine gZ hy5 ?_|refine j01 hI fun _=>?_|refine j1m hfi fun _=>?_|apply gK)<;>conv=>whnf
   all_goals exact gJ
  |ok x=>
   obtain⟨rfl,hzx,hfi⟩:=hfi;refine jij (hoS _ rfl) hzx hoW ?_;refine j00 Tryz.func91 rfl rfl rfl ?_;repeat'(first|refine gU ?_|refine gW hk ?_|refine VIdx.mk _ hv0 ?_|refine VIdx.mk _ hv1 ?_|refine gZ hy1 ?_|refine gW hf ?_|refine gW hg ?_|refine gX hn ?_|refine VIdx.mk _ hv5 ?_|refine gZ hy5 ?_|refine j01 hI fun _=>?_|refine j01 hfi fun _=>?_|apply gK)<;>conv=>whnf
   all_goals exact gJ
 ·rw[decide_eq_false hk6] at q4;cases q4;have hn:Finds C1 141 [bv (decide (k5=6)),iv 20] [] fun r _=>r=.pan (j0f 20):=by
   rw[decide_eq_false hk6];exact j2w 20
  refine j2I ?_;refine j00 Tryz.func91 rfl rfl rfl ?_;repeat'(first|refine gU ?_|refine gW hk ?_|refine VIdx.mk _ hv0 ?_|refine gZ hy1 ?_|refine gW hf ?_|refine gW hg ?_|refine j0y hn rfl rfl ?_)<;>conv=>whnf
  all_goals exact gJ
open Go Go.Am Go.Gw
theorem jlQ(E:Nv)(W:Tm→M Tm)(T:List Tm→Tm→M Tm)(hT:jcc cs tot T)(fT:∀c t,Fine (T c t))(ctx:List Tm)(cv:PV)(hc:CtxP ctx cv)(t:Tm)(v:PV)(h:TmP t v)(hs:shT t=true)(l:Int)(h0:1≤l)(h1:l≤tot)(hk:Fr 143 [.ci [.bp 0 0]] cs tot l (.ret []) (l-1))(hkind:t.kind=5)(r:Except Int Tm)(l':Int)(hx:typK E W T ctx t (l-1)=some (r,l')):j4Z cs tot l cv v r l':=by
 unfold typK at hx;rw[if_neg (by omega),if_neg (by omega),if_neg (by omega),if_neg (by omega),if_pos hkind] at hx
 have h':=h;have hc':=hc;obtain⟨b,z,xs,rfl,-⟩:=hc';obtain⟨k1,n1,s1,l1,t1,b1,z1,x1,c1,y1,ys1,rfl,rfl,hz1,hx1,-,-,hy1,hys1,-⟩:=h'.open;obtain⟨a1,a2,a3,a4,a5,a6⟩:=j0s hs;simp only[Tm.kind] at hkind;subst hkind;have hlen2:t1.length=2:=by
  have e:j1f 5=2:=rfl;omega
 obtain⟨v0,hv0,h0'⟩:=hys1.at (getD_at (ts:=t1) (i:=0) (by omega))
 obtain⟨v1,hv1,h1'⟩:=hys1.at (getD_at (ts:=t1) (i:=1) (by omega))
 have m0:t1.getD 0 tz∈t1:=List.mem_of_getElem? (getD_at (by omega))
 have m1:t1.getD 1 tz∈t1:=List.mem_of_getElem? (getD_at (by omega))
 have e0:(Tm.mk 5 n1 s1 l1 t1).arg 0=t1.getD 0 tz:=rfl;have e1:(Tm.mk 5 n1 s1 l1 t1).arg 1=t1.getD 1 tz:=rfl;rw[e0,e1] at hx;cases h0'.c;cases h1'.c;rcases j09 hx with⟨e,q1,rfl⟩|⟨c2',la,q1,q2⟩
 ·obtain⟨rfl,rfl,hw⟩:=j3b ctx _ hc _ _ h0' (a5 _ m0) q1;refine j2I ?_;refine j00 Tryz.func91 rfl rfl rfl ?_;repeat'(first|refine gU ?_|refine gW hk ?_|refine VIdx.mk _ hv0 ?_|refine VIdx.mk _ hv1 ?_|refine gZ hy1 ?_|refine j1m hw fun _=>?_|apply gK)<;>conv=>whnf
  all_goals exact gJ
 obtain⟨rfl,rfl,wc,hwc,hw⟩:=j3b ctx _ hc _ _ h0' (a5 _ m0) q1;have hwc':=hwc;obtain⟨b7,z7,x7,rfl,-⟩:=hwc';rcases j09 q2 with⟨e,q3,rfl⟩|⟨y,lb,q3,q4⟩
 ·obtain⟨-,hf⟩:=hT _ _ hwc _ _ h1' (a5 _ m1) (l-1) _ l' (by omega) (by omega) q3
  have hf:Fr _ _ _ _ _ (.pan (j0f e)) l':=hf;refine j2I ?_;refine j00 Tryz.func91 rfl rfl rfl ?_;repeat'(first|refine gU ?_|refine gW hk ?_|refine VIdx.mk _ hv0 ?_|refine VIdx.mk _ hv1 ?_|refine gZ hy1 ?_|refine j01 hw fun _=>?_|refine gW hf ?_|apply gK)<;>conv=>whnf
  all_goals exact gJ
 obtain⟨hy,wy,hwy,hf⟩:=hT _ _ hwc _ _ h1' (a5 _ m1) (l-1) _ lb (by omega) (by omega) q3
 obtain⟨hys,hyz⟩:=hy y rfl;obtain⟨wp,hwp,hp⟩:=jr8 y _ hwy [t1.getD 0 tz] true 5 _ (.inl rfl) ⟨_,[],rfl,h0',rfl⟩ (by simp)
 have hps:shT (overR 6 [t1.getD 0 tz] y)=true:=j9W (by omega) rfl (by omega) (fun _=>rfl) (fun x hx=>by
  rcases List.mem_cons.1 hx with rfl|hx
  ·exact a5 _ m0
  ·rw[List.mem_singleton.1 hx];exact hys) (by omega)
 have hwp:TmP ((some (overR 6 [t1.getD 0 tz] y)).getD tz) wp:=hwp;obtain⟨rfl,hfi⟩:=j2v _ wp hwp q4;cases hwy.c;cases hwp.c;cases r with
 |error e=>
  obtain⟨rfl,hfi⟩:=hfi;refine j2I ?_;refine j00 Tryz.func91 rfl rfl rfl ?_;repeat'(first|refine gU ?_|refine gW hk ?_|refine VIdx.mk _ hv0 ?_|refine VIdx.mk _ hv1 ?_|refine gZ hy1 ?_|refine j01 hw fun _=>?_|refine gW hf ?_|refine j01 hp fun _=>?_|refine j1m hfi fun _=>?_|apply gK)<;>conv=>whnf
  all_goals exact gJ
 |ok x=>
  obtain⟨e,hzx,hfi⟩:=hfi;cases e;refine jij hps hzx hwp ?_;refine j00 Tryz.func91 rfl rfl rfl ?_;repeat'(first|refine gU ?_|refine gW hk ?_|refine VIdx.mk _ hv0 ?_|refine VIdx.mk _ hv1 ?_|refine gZ hy1 ?_|refine j01 hw fun _=>?_|refine gW hf ?_|refine j01 hp fun _=>?_|refine j01 hfi fun _=>?_|apply gK)<;>conv=>whnf
  all_goals exact gJ
theorem joV(E:Nv)(W:Tm→M Tm)(T:List Tm→Tm→M Tm)(hS:jra cs tot (sortB W T))(fS:∀c t,Fine (sortB W T c t))(ctx:List Tm)(cv:PV)(hc:CtxP ctx cv)(t:Tm)(v:PV)(h:TmP t v)(hs:shT t=true)(l:Int)(h0:1≤l)(h1:l≤tot)(hk:Fr 143 [.ci [.bp 0 0]] cs tot l (.ret []) (l-1))(hkind:t.kind=6)(r:Except Int Tm)(l':Int)(hx:typK E W T ctx t (l-1)=some (r,l')):j4Z cs tot l cv v r l':=by
 unfold typK at hx;rw[if_neg (by omega),if_neg (by omega),if_neg (by omega),if_neg (by omega),if_neg (by omega),if_pos hkind] at hx
 have h':=h;have hc':=hc;obtain⟨b,z,xs,rfl,-⟩:=hc';obtain⟨k1,n1,s1,l1,t1,b1,z1,x1,c1,y1,ys1,rfl,rfl,hz1,hx1,-,-,hy1,hys1,-⟩:=h'.open;obtain⟨a1,a2,a3,a4,a5,a6⟩:=j0s hs;simp only[Tm.kind] at hkind;subst hkind;have hlen2:t1.length=2:=by
  have e:j1f 6=2:=rfl;omega
 obtain⟨v0,hv0,h0'⟩:=hys1.at (getD_at (ts:=t1) (i:=0) (by omega))
 obtain⟨v1,hv1,h1'⟩:=hys1.at (getD_at (ts:=t1) (i:=1) (by omega))
 have m0:t1.getD 0 tz∈t1:=List.mem_of_getElem? (getD_at (by omega))
 have m1:t1.getD 1 tz∈t1:=List.mem_of_getElem? (getD_at (by omega))
 have e0:(Tm.mk 6 n1 s1 l1 t1).arg 0=t1.getD 0 tz:=rfl;have e1:(Tm.mk 6 n1 s1 l1 t1).arg 1=t1.getD 1 tz:=rfl;rw[e0,e1] at hx;cases h0'.c;cases h1'.c;rcases j09 hx with⟨e,q1,rfl⟩|⟨lv,la,q1,q2⟩
 ·have hf:=hS ctx _ hc _ _ h0' (a5 _ m0) (l-1) _ l' (by omega) (by omega) q1
  have hf:Fr _ _ _ _ _ (.pan (j0f e)) l':=hf;refine j2I ?_;refine j00 Tryz.func91 rfl rfl rfl ?_;repeat'(first|refine gU ?_|refine gW hk ?_|refine VIdx.mk _ hv0 ?_|refine gZ hy1 ?_|refine gW hf ?_)<;>conv=>whnf
  all_goals exact gJ
 obtain⟨wl,hwl,hf⟩:=hS ctx _ hc _ _ h0' (a5 _ m0) (l-1) _ la (by omega) (by omega) q1
 have hla:=(fS ctx (t1.getD 0 tz)).dn (l-1) _ la (by omega) q1
 cases hwl.c;rcases j09 q2 with⟨e,q3,rfl⟩|⟨c2',lb,q3,q4⟩
 ·obtain⟨rfl,rfl,hw⟩:=j3b ctx _ hc _ _ h0' (a5 _ m0) q3;refine j2I ?_;refine j00 Tryz.func91 rfl rfl rfl ?_;repeat'(first|refine gU ?_|refine gW hk ?_|refine VIdx.mk _ hv0 ?_|refine VIdx.mk _ hv1 ?_|refine gZ hy1 ?_|refine gW hf ?_|refine j1m hw fun _=>?_|apply gK)<;>conv=>whnf
  all_goals exact gJ
 obtain⟨rfl,rfl,wc,hwc,hw⟩:=j3b ctx _ hc _ _ h0' (a5 _ m0) q3;have hwc':=hwc;obtain⟨b7,z7,x7,rfl,-⟩:=hwc';rcases j09 q4 with⟨e,q5,rfl⟩|⟨mv,lc,q5,q6⟩
 ·have hg:=hS _ _ hwc _ _ h1' (a5 _ m1) lb _ l' (by omega) (by omega) q5
  have hg:Fr _ _ _ _ _ (.pan (j0f e)) l':=hg;refine j2I ?_;refine j00 Tryz.func91 rfl rfl rfl ?_;repeat'(first|refine gU ?_|refine gW hk ?_|refine VIdx.mk _ hv0 ?_|refine VIdx.mk _ hv1 ?_|refine gZ hy1 ?_|refine gW hf ?_|refine j01 hw fun _=>?_|refine gW hg ?_|apply gK)<;>conv=>whnf
  all_goals exact gJ
 obtain⟨wm,hwm,hg⟩:=hS _ _ hwc _ _ h1' (a5 _ m1) lb _ lc (by omega) (by omega) q5
 have hM:=jfA lv _ hwl mv _ hwm;have hsu:LvP (j8S lv mv) (encL (j8S lv mv)):=by
  unfold j8S;split
  ·exact jbj (by simp) (by simp)
  ·split
   ·exact hwm.w
   ·exact jbj (by simp) (fun x hx=>by
     rcases List.mem_cons.1 hx with rfl|hx
     ·exact hwl.w
     ·rw[List.mem_singleton.1 hx];exact hwm.w)
 generalize j8S lv mv=q at *;have hso:=jdD q _ hsu;have hsv:=jeX hsu;obtain⟨k5,n5,b5,z5,x5,he5⟩:=j0A q;unfold jlK at hso hsv;cases hwm.c;rcases j09 q6 with⟨e,q7,rfl⟩|⟨y,ld,q7,q8⟩
 ·obtain⟨rfl,rfl,hsm⟩:=jdY _ _ hsu q7;rw[he5] at hM hsm;refine j2I ?_;refine j00 Tryz.func91 rfl rfl rfl ?_;repeat'(first|refine gU ?_|refine gW hk ?_|refine VIdx.mk _ hv0 ?_|refine VIdx.mk _ hv1 ?_|refine gZ hy1 ?_|refine gW hf ?_|refine j01 hw fun _=>?_|refine gW hg ?_|refine gX hM ?_|refine j0y hsm rfl rfl ?_|apply gK)<;>conv=>whnf
  all_goals exact gJ
 ·obtain⟨rfl,rfl,hr,hsm⟩:=jdY _ _ hsu q7;cases q8;rw[he5] at hM hsm hso hsv;refine jij (jeT y) (jbK hr) hsv ?_;refine j00 Tryz.func91 rfl rfl rfl ?_;repeat'(first|refine gU ?_|refine gW hk ?_|refine VIdx.mk _ hv0 ?_|refine VIdx.mk _ hv1 ?_|refine gZ hy1 ?_|refine gW hf ?_|refine j01 hw fun _=>?_|refine gW hg ?_|refine gX hM ?_|refine gX hsm ?_|refine gX hso ?_|apply gK)<;>conv=>whnf
  all_goals exact gJ
theorem jlR(E:Nv)(W:Tm→M Tm)(T:List Tm→Tm→M Tm)(hT:jcc cs tot T)(ctx:List Tm)(cv:PV)(hc:CtxP ctx cv)(t:Tm)(v:PV)(h:TmP t v)(hs:shT t=true)(l:Int)(h0:1≤l)(h1:l≤tot)(hk:Fr 143 [.ci [.bp 0 0]] cs tot l (.ret []) (l-1))(hkind:t.kind=7)(r:Except Int Tm)(l':Int)(hx:typK E W T ctx t (l-1)=some (r,l')):j4Z cs tot l cv v r l':=by
 unfold typK at hx;rw[if_neg (by omega),if_neg (by omega),if_neg (by omega),if_neg (by omega),if_neg (by omega),if_neg (by omega)] at hx
 have h':=h;have hc':=hc;obtain⟨b,z,xs,rfl,-⟩:=hc';obtain⟨k1,n1,s1,l1,t1,b1,z1,x1,c1,y1,ys1,rfl,rfl,hz1,hx1,-,-,hy1,hys1,-⟩:=h'.open;obtain⟨a1,a2,a3,a4,a5,a6⟩:=j0s hs;simp only[Tm.kind] at hkind;subst hkind;have hlen3:t1.length=3:=by
  have e:j1f 7=3:=rfl;omega
 obtain⟨v1,hv1,h1'⟩:=hys1.at (getD_at (ts:=t1) (i:=1) (by omega))
 obtain⟨v2,hv2,h2'⟩:=hys1.at (getD_at (ts:=t1) (i:=2) (by omega))
 have e1:(Tm.mk 7 n1 s1 l1 t1).arg 1=t1.getD 1 tz:=rfl;have e2:(Tm.mk 7 n1 s1 l1 t1).arg 2=t1.getD 2 tz:=rfl;rw[e1,e2] at hx;have hI:=j6K _ _ h2' [t1.getD 1 tz] true 5 _ (.inl rfl) ⟨_,[],rfl,h1',rfl⟩ (by simp)
 have hoW:TmW ((InstF (t1.getD 2 tz) [t1.getD 1 tz]).getD tz):=j7k fun x hx=>j8O (by simpa using h1'.w) h2'.w hx
 rw[j5B] at hI;have hoS:∀x,InstF (t1.getD 2 tz) [t1.getD 1 tz]=some x→shT x=true:=fun x hx=>j6J hx
 generalize InstF (t1.getD 2 tz) [t1.getD 1 tz]=o at *;cases h1'.c;cases h2'.c;unfold TmW at hoW;obtain⟨k9,n9,s9,b9,z9,x9,c9,y9,ys9,he9⟩:=j07 (o.getD tz);rw[he9] at hI hoW;rcases j09 hx with⟨e,q1,rfl⟩|⟨y,la,q1,q2⟩
 ·obtain⟨rfl,rfl,hfi⟩:=j2v o _ hoW q1;refine j2I ?_;refine j00 Tryz.func91 rfl rfl rfl ?_;repeat'(first|refine gU ?_|refine gW hk ?_|refine VIdx.mk _ hv1 ?_|refine VIdx.mk _ hv2 ?_|refine gZ hy1 ?_|refine j01 hI fun _=>?_|refine j1m hfi fun _=>?_|apply gK)<;>conv=>whnf
  all_goals exact gJ
 ·obtain⟨rfl,rfl,hzy,hfi⟩:=j2v o _ hoW q1;have hwy:TmP y (.ag [iv k9,iv n9,sv s9,.sl b9 z9 x9,.sl c9 y9 ys9]):=hoW;obtain⟨hrs,hf⟩:=hT ctx _ hc _ _ hwy (hoS _ rfl) (l-1) r l' (by omega) (by omega) q2
  cases r with
  |error e=>
   have hf:Fr _ _ _ _ _ (.pan (j0f e)) l':=hf;refine j2I ?_;refine j00 Tryz.func91 rfl rfl rfl ?_;repeat'(first|refine gU ?_|refine gW hk ?_|refine VIdx.mk _ hv1 ?_|refine VIdx.mk _ hv2 ?_|refine gZ hy1 ?_|refine j01 hI fun _=>?_|refine j01 hfi fun _=>?_|refine gW hf ?_|apply gK)<;>conv=>whnf
   all_goals exact gJ
  |ok x=>
   obtain⟨wx,hwx,hf⟩:=hf;obtain⟨r1,r2⟩:=hrs x rfl;cases hwx.c;refine jij r1 r2 hwx ?_;refine j00 Tryz.func91 rfl rfl rfl ?_;repeat'(first|refine gU ?_|refine gW hk ?_|refine VIdx.mk _ hv1 ?_|refine VIdx.mk _ hv2 ?_|refine gZ hy1 ?_|refine j01 hI fun _=>?_|refine j01 hfi fun _=>?_|refine gW hf ?_|apply gK)<;>conv=>whnf
   all_goals exact gJ
theorem jqO(ht:tot≤1048576)(E:Nv)(hE:NvP E (.cp cs))(W:Tm→M Tm)(T:List Tm→Tm→M Tm)(hW:WOk cs tot W)(hT:jcc cs tot T)(fW:∀t,Fine (W t))(fT:∀c t,Fine (T c t)):jcc cs tot (typB E W T):=by
 intro ctx cv hc t v h hs l r l' h0 h1 hx;rw[jsR] at hx;rcases j09 hx with⟨e,q1,rfl⟩|⟨u0,la,q1,q2⟩
 ·rcases j1d q1 with⟨a1,a2,a3⟩|⟨a1,a2,a3⟩
  ·cases a3
  ·cases a3;subst a2;have hk:=jab cs tot l' a1;refine j2I ?_;obtain⟨b,z,xs,rfl,-⟩:=hc;cases h.c;refine j00 Tryz.func91 rfl rfl rfl ?_;repeat'(first|refine gW hk ?_)<;>conv=>whnf
   all_goals exact gJ
 rcases j1d q1 with⟨a1,a2,a3⟩|⟨a1,a2,a3⟩
 rotate_left
 ·cases a3
 subst a2;have hk:=j7V cs tot l a1 h1 ht;have hkd:1≤t.kind∧t.kind≤7:=by
  obtain⟨k,n,s,ls,ts⟩:=t;exact(j0s hs).1
 obtain e|e|e|e|e|e|e:t.kind=1∨t.kind=2∨t.kind=3∨t.kind=4∨t.kind=5∨t.kind=6∨t.kind=7:=by omega
 ·exact jlS E W T ctx cv hc t v h hs l hk e r l' q2
 ·exact jin E W T ctx cv hc t v h hs l hk e r l' q2
 ·exact jgU E W T hE ctx cv hc t v h hs l hk e r l' q2
 ·exact jlP E W T hW hT fW fT ctx cv hc t v h hs l a1 h1 hk e r l' q2
 ·exact jlQ E W T hT fT ctx cv hc t v h hs l a1 h1 hk e r l' q2
 ·exact joV E W T (jfI ht hW hT fW fT) (j3f fW fT) ctx cv hc t v h hs l a1 h1 hk e r l' q2
 ·exact jlR E W T hT ctx cv hc t v h hs l a1 h1 hk e r l' q2
open Go Go.Am Go.Gw
def CrB(f:FuncId)(args cs:List PV)(tot l:Int)(r:Except Int Bool)(l':Int):Prop:=match r with
 | .ok q=>Fr f args cs tot l (.ret [bv q]) l'
 | .error e=>Fr f args cs tot l (.pan (j0f e)) l'
def j5K(cs:List PV)(tot:Int)(S:List Tm→Tm→Tm→M Bool):Prop:=∀ctx cv,CtxP ctx cv→∀a av,TmP a av→shT a=true→sizT a≤2000→∀b wv,TmP b wv→shT b=true→sizT b≤2000→∀l r l',0≤l→l≤tot→S ctx a b l=some (r,l')→CrB 89 [.ci [.bp 0 0],cv,av,wv] cs tot l r l'
theorem jdk:∀{ls ms:List Lv},j1Z ls ms=true→ls.length=ms.length
 |[],[],_=>rfl
 |[],_::_,h=>by simp[j1Z] at h
 |_::_,[],h=>by simp[j1Z] at h
 |l::r,m::s,h=>by
  simp only[j1Z,Bool.and_eq_true] at h;simp[jdk h.2]
theorem joB{ms:List Lv}{m:Lv}(hl:ls[i]?=some l)(hm:ms[i]?=some m):j1Z (ls.drop i) (ms.drop i)=(j9V l m&&j1Z (ls.drop (i+1)) (ms.drop (i+1))):=by rw[drop_at hl,drop_at hm,j1Z]
theorem jhz(ls ms:List Lv)(b b':Bool)(z z':Nat)(xs xs':List PV)(hz:z=3∨xs=[])(hz':z'=3∨xs'=[])(hxs:LvsP ls xs)(hxs':LvsP ms xs')(hbd:ls.length≤1000000):
  Pf C1 199 [.sl b z xs,.sl b' z' xs',.fn 204 [] []] [bv (j1Z ls ms)]:=by
 have hlen:=hxs.len;have hlen':=hxs'.len;refine j00 Tryz.func199 rfl rfl rfl ?_;repeat'(first|refine gU ?_|apply gE<;>intro h)<;>conv=>whnf
 rotate_left
 ·have e:j1Z ls ms=false:=Bool.eq_false_iff.2 fun e=>by
   have:=jdk e;omega
  rw[e]
 refine j03 (G:=Nat) (fun i=>[(17,iv i)]) (fun _=>_) (fun i=>i≤ls.length∧j1Z (ls.drop i) (ms.drop i)=j1Z ls ms) (fun i=>ls.length-i) 0 ⟨by omega,rfl⟩ rfl rfl ?_
 rintro i ⟨hi,hall⟩;dsimp only at hi hall⊢;repeat'(first|refine gU ?_|apply gE<;>intro h)<;>conv=>whnf
 ·have hi':i<ls.length:=by omega
  obtain⟨tc,htc⟩:∃tc,ls[i]?=some tc:=⟨_,List.getElem?_eq_getElem hi'⟩;obtain⟨td,htd⟩:∃td,ms[i]?=some td:=⟨_,List.getElem?_eq_getElem (by omega)⟩
  obtain⟨v,hv,hl⟩:=hxs.at htc;obtain⟨w,hw,hm⟩:=hxs'.at htd;have hsm:=jfe tc v hl td w hm;rw[joB htc htd] at hall;obtain⟨k1,n1,l1,b1,z1,x1,rfl,rfl,-⟩:=hl.open;obtain⟨k2,n2,l2,b2,z2,x2,rfl,rfl,-⟩:=hm.open;repeat'(first|refine gU ?_|apply gM<;>intro h|refine VIdx.mk _ hv ?_|refine VIdx.mk _ hw ?_|refine gZ hz ?_|refine gZ hz' ?_|refine gX hsm ?_)<;>conv=>whnf
  ·refine VAgain.mk _ rfl _ (j0a rfl rfl rfl) ⟨i+1,⟨hi',?_⟩,by omega,rfl⟩
   rw[←hall,(by assumption:j9V _ _=true)]
   rfl
  ·rw[←hall,(by assumption:j9V _ _=false)]
   rfl
 ·have e:ls.drop i=[]:=List.drop_of_length_le (by omega)
  have e':ms.drop i=[]:=List.drop_of_length_le (by omega)
  rw[e,e',j1Z] at hall;rw[←hall]
theorem jcG(a:Tm)(v:PV)(h:TmP a v)(b:Tm)(w:PV)(h':TmP b w)(hl:a.levels.length≤1000000):Pf C1 202 [v,w] [bv (j9F a b)]:=by
 obtain⟨k1,n1,s1,l1,t1,b1,z1,x1,c1,y1,ys1,rfl,rfl,hz1,hx1,-⟩:=h.open;obtain⟨k2,n2,s2,l2,t2,b2,z2,x2,c2,y2,ys2,rfl,rfl,hz2,hx2,-⟩:=h'.open;have he:=jhz l1 l2 b1 b2 z1 z2 x1 x2 hz1 hz2 hx1 hx2 hl;have e:j9F (.mk k1 n1 s1 l1 t1) (.mk k2 n2 s2 l2 t2)=(decide (k1=k2)&&((decide (k1=1)&&decide (n1=n2))||(decide (k1=3)&&(s1 == s2&&j1Z l1 l2)))):=rfl
 rw[e];clear e;generalize j1Z l1 l2=q at *
 by_cases e1:k1=k2
 ·subst e1
  by_cases e2:k1=1
  ·subst e2;have er:(decide ((1:Int)=1)&&((decide ((1:Int)=1)&&decide (n1=n2))||(decide ((1:Int)=3)&&(s1 == s2&&q))))=decide (n1=n2):=by simp
   rw[er];refine j00 Tryz.func202 rfl rfl rfl ?_;repeat'(first|refine gU ?_|apply gE<;>intro h)<;>conv=>whnf
   all_goals first
    |rfl
    |(refine j2g ?_;simp_all;done)
  ·by_cases e3:k1=3
   ·subst e3
    by_cases e4:s1=s2
    ·subst e4;have er:(decide ((3:Int)=3)&&((decide ((3:Int)=1)&&decide (n1=n2))||(decide ((3:Int)=3)&&(s1 == s1&&q))))=q:=by simp
     rw[er];have hq:(s1 == s1)=true:=by simp
     refine j00 Tryz.func202 rfl rfl rfl ?_;repeat'(first|refine gU ?_|refine j4n ?_|refine gX he ?_)<;>conv=>whnf
     all_goals first
      |rfl
      |(refine j2g ?_;simp_all;done)
    ·have hq:(s1 == s2)=false:=by simpa using e4
     have er:(decide ((3:Int)=3)&&((decide ((3:Int)=1)&&decide (n1=n2))||(decide ((3:Int)=3)&&(s1 == s2&&q))))=false:=by simp[e4]
     rw[er];refine j00 Tryz.func202 rfl rfl rfl ?_;repeat'(first|refine gU ?_|refine j4n ?_)<;>conv=>whnf
     all_goals first
      |rfl
      |(refine j2g ?_;simp_all;done)
      |(exfalso;simp_all;done)
   ·have er:(decide (k1=k1)&&((decide (k1=1)&&decide (n1=n2))||(decide (k1=3)&&(s1 == s2&&q))))=false:=by simp[e2,e3]
    rw[er];refine j00 Tryz.func202 rfl rfl rfl ?_;repeat'(first|refine gU ?_|apply gE<;>intro h)<;>conv=>whnf
    all_goals first
     |rfl
     |(exfalso;omega)
     |(refine j2g ?_;simp_all;done)
 ·have er:(decide (k1=k2)&&((decide (k1=1)&&decide (n1=n2))||(decide (k1=3)&&(s1 == s2&&q))))=false:=by simp[e1]
  rw[er];refine j00 Tryz.func202 rfl rfl rfl ?_;repeat'(refine gU ?_)<;>conv=>whnf
  all_goals first
   |rfl
   |(exfalso;omega)
   |(refine j2g ?_;simp_all;done)
def jtI(cv:PV):PV:=.fn 255 [] [.ci [.ci [.bp 0 0]],.cp [cv]]
theorem jif(hS:j5K cs tot S)(ctx:List Tm)(cv:PV)(hc:CtxP ctx cv)(a:Tm)(av:PV)(ha:TmP a av)(sa:shT a=true)(za:sizT a≤2000)(b:Tm)(wv:PV)(hb:TmP b wv)(sb:shT b=true)(zb:sizT b≤2000)(l:Int)(r:Except Int Bool)(l':Int)(h0:0≤l)(h1:l≤tot)(hx:S ctx a b l=some (r,l')):
  CrB 255 [av,wv,.ci [.ci [.bp 0 0]],.cp [cv]] cs tot l r l':=by
 have hs:=hS ctx cv hc a av ha sa za b wv hb sb zb l r l' h0 h1 hx;obtain⟨b0,z0,xs,rfl,-⟩:=hc;obtain⟨k1,n1,s1,l1,t1,b1,z1,x1,c1,y1,ys1,rfl,rfl,-⟩:=ha.open;obtain⟨k2,n2,s2,l2,t2,b2,z2,x2,c2,y2,ys2,rfl,rfl,-⟩:=hb.open;cases r with
 |error e=>
  have hs:Fr _ _ _ _ _ (.pan (j0f e)) l':=hs;show Fr _ _ _ _ _ (.pan (j0f e)) l'
  refine j00 Tryz.func255 rfl rfl rfl ?_;repeat'(first|refine gW hs ?_)<;>conv=>whnf
  all_goals exact gJ
 |ok q=>
  have hs:Fr _ _ _ _ _ (.ret [bv q]) l':=hs;show Fr _ _ _ _ _ (.ret [bv q]) l'
  refine j00 Tryz.func255 rfl rfl rfl ?_;repeat'(first|refine gU ?_|refine gW hs ?_)<;>conv=>whnf
  all_goals exact gJ
theorem jn2{S:Tm→Tm→M Bool}{x y:List Tm}{a b:Tm}(ha:x[i]?=some a)(hb:y[i]?=some b):j7h S (x.drop i) (y.drop i)=bnd (S a b) fun q=>match q with
  |true=>j7h S (x.drop (i+1)) (y.drop (i+1))
  |false=>mok false:=by
 rw[drop_at ha,drop_at hb,j7h];rfl
theorem jn1(hS:j5K cs tot S)(fS:∀c a b,Fine (S c a b))(ctx:List Tm)(cv:PV)(hc:CtxP ctx cv)(x y:List Tm)(b b':Bool)(z z':Nat)(xs ys:List PV)(hz:z=5∨xs=[])(hz':z'=5∨ys=[])(hxs:TmsP x xs)(hys:TmsP y ys)(hbd:x.length≤2000)(sx:∀t∈x,shT t=true∧sizT t≤2000)(sy:∀t∈y,shT t=true∧sizT t≤2000)
  (l:Int) (r:Except Int Bool) (l':Int) (h0:0≤l) (h1:l≤tot) (hx:jhy (S ctx) x y l=some (r,l')):CrB 201 [.sl b z xs,.sl b' z' ys,jtI cv] cs tot l r l':=by
 have hlen:=hxs.len;have hlen':=hys.len;have hc':=hc;obtain⟨b0,z0,xs0,rfl,-⟩:=hc';have hrun:Finds C1 201 [.sl b z xs,.sl b' z' ys,jtI (.sl b0 z0 xs0)] [runB cs tot l] fun r' st'=>st'=[runB cs tot l']∧(match r with
   | .ok q=>r'=.ret [bv q]
   | .error e=>r'=.pan (j0f e)):=by
  refine j00 Tryz.func201 rfl rfl rfl ?_
  by_cases hl:x.length=y.length
  ·simp only[jhy,decide_eq_true hl] at hx;repeat'(first|refine gU ?_|apply gE<;>intro h)<;>conv=>whnf
   rotate_left
   ·exfalso;omega
   refine j03 (G:=Nat×Int) (fun g=>[(17,iv g.1)]) (fun g=>[runB cs tot g.2]) (fun g=>g.1≤x.length∧0≤g.2∧g.2≤tot∧j7h (S ctx) (x.drop g.1) (y.drop g.1) g.2=some (r,l')) (fun g=>x.length-g.1) (0,l) ⟨by omega,h0,h1,hx⟩ rfl rfl ?_
   rintro⟨i,l⟩ ⟨hi,h0,h1,hx⟩;dsimp only at hi h0 h1 hx ⊢
   by_cases hi':i<x.length
   ·obtain⟨tc,htc⟩:∃tc,x[i]?=some tc:=⟨_,List.getElem?_eq_getElem hi'⟩;obtain⟨td,htd⟩:∃td,y[i]?=some td:=⟨_,List.getElem?_eq_getElem (by omega)⟩
    obtain⟨v,hv,ha⟩:=hxs.at htc;obtain⟨w,hw,hb⟩:=hys.at htd;obtain⟨sa,za⟩:=sx _ (List.mem_of_getElem? htc);obtain⟨sb,zb⟩:=sy _ (List.mem_of_getElem? htd);rw[jn2 htc htd] at hx;have hsp:=fun r l'=>jif hS ctx _ hc tc v ha sa za td w hb sb zb l r l' h0 h1
    cases ha.c;cases hb.c;rcases j09 hx with⟨e,q1,rfl⟩|⟨q,la,q1,q2⟩
    ·have hf:Fr _ _ _ _ _ (.pan (j0f e)) l':=hsp _ _ q1;repeat'(first|refine gU ?_|apply gE<;>intro h|refine VIdx.mk _ hv ?_|refine VIdx.mk _ hw ?_|refine gZ hz ?_|refine gZ hz' ?_|refine gW hf ?_)<;>conv=>whnf
     all_goals exact gJ
    ·have hf:Fr _ _ _ _ _ (.ret [bv q]) la:=hsp _ _ q1;have hd:=(fS ctx tc td).dn l _ la h0 q1;cases q with
     |false=>
      cases q2;repeat'(first|refine gU ?_|apply gE<;>intro h|refine VIdx.mk _ hv ?_|refine VIdx.mk _ hw ?_|refine gZ hz ?_|refine gZ hz' ?_|refine gW hf ?_)<;>conv=>whnf
      all_goals exact gJ
     |true=>
      repeat'(first|refine gU ?_|apply gE<;>intro h|refine VIdx.mk _ hv ?_|refine VIdx.mk _ hw ?_|refine gZ hz ?_|refine gZ hz' ?_|refine gW hf ?_)<;>conv=>whnf
      all_goals first|(exfalso;omega)|skip
      exact VAgain.mk _ rfl _ (j0a rfl rfl rfl) ⟨(i+1,la),⟨hi',by dsimp only;omega,by dsimp only;omega,q2⟩,by dsimp only;omega,rfl⟩
   ·have e:x.drop i=[]:=List.drop_of_length_le (by omega)
    rw[e] at hx;cases hx;repeat'(first|refine gU ?_|apply gE<;>intro h)<;>conv=>whnf
    all_goals exact gJ
  ·simp only[jhy,decide_eq_false hl] at hx;cases hx;repeat'(first|refine gU ?_|apply gE<;>intro h)<;>conv=>whnf
   all_goals exact gJ
 obtain⟨r',st',⟨rfl,hq⟩,N,hN⟩:=hrun;cases r with
 |ok q=>
  obtain rfl:=hq;exact⟨_,_,⟨rfl,rfl⟩,N,hN⟩
 |error e=>
  obtain rfl:=hq;exact⟨_,_,⟨rfl,rfl⟩,N,hN⟩
open Go Go.Am Go.Gw
theorem jar{v:PV}(h:TmP t v)(hs:shT t=true)(hz:sizT t≤2000):∃k n s b z xs c y ys ab az axs,Pf C1 168 [v] [.ag [iv k,iv n,sv s,.sl b z xs,.sl c y ys],.sl ab az axs]∧TmP (spF t).1 (.ag [iv k,iv n,sv s,.sl b z xs,.sl c y ys])∧(az=5∨axs=[])∧TmsP (j1c t) axs∧(j1c t).length≤2000∧(∀a∈j1c t,shT a=true∧sizT a≤2000)∧shT (spF t).1=true:=by
 have hsp:=j9z t;obtain⟨hs1,hs2,hs3⟩:=jjS t hs;have hS:=jaz t v h (by omega)
 obtain⟨hw1,hw2⟩:=jqL t h.w;obtain⟨ab,az,axs,hae,haz,haxs⟩:=j9B (ts:=j1c t) fun a ha=>hw2 a (j3a.1 ha)
 obtain⟨k,n,s,b,z,xs,c,y,ys,he⟩:=j07 (spF t).1;unfold TmW at hw1;rw[he] at hS hw1;rw[hae] at hS;refine⟨k,n,s,b,z,xs,c,y,ys,ab,az,axs,hS,hw1,haz,haxs,by simp[j1c];omega,fun a ha=>?_,hs1⟩
 have hm:=j3a.1 ha;have:=hsp.2 a hm;exact⟨hs2 a hm,by omega⟩
theorem jrq(h:shT t=true):t.levels.length≤1000000:=by
 obtain⟨k,n,s,ls,ts⟩:=t;obtain⟨a1,a2,a3,a4,a5,a6⟩:=j0s h;show ls.length≤1000000
 by_cases hk:k=3
 ·have:=a3 hk;omega
 ·have:=a4 hk;unfold j0O at this;split at this<;>omega
theorem jdp(hS:j5K cs tot S)(fS:∀c a b,Fine (S c a b))(ctx:List Tm)(cv:PV)(hc:CtxP ctx cv)(a:Tm)(av:PV)(ha:TmP a av)(sa:shT a=true)(za:sizT a≤2000)(b:Tm)(wv:PV)(hb:TmP b wv)(sb:shT b=true)(zb:sizT b≤2000)(l:Int)(r:Except Int Bool)(l':Int)(h0:0≤l)(h1:l≤tot)(hx:j4c S ctx a b l=some (r,l')):
  CrB 203 [.ci [.bp 0 0],cv,av,wv] cs tot l r l':=by
 obtain⟨ka,na,s_a,ba,zza,xa,ca,ya,ysa,aba,aza,axa,hSa,hPa,hza,hxa,hla,hsa,hsha⟩:=jar ha sa za;obtain⟨kb,nb,s_b,bb,zzb,xb,cb,yb,ysb,abb,azb,axb,hSb,hPb,hzb,hxb,hlb,hsb,hshb⟩:=jar hb sb zb;have hal:=jcG _ _ hPa _ _ hPb (jrq hsha);have hEq:=fun hx=>jn1 hS fS ctx cv hc (j1c a) (j1c b) aba abb aza azb axa axb hza hzb hxa hxb hla hsa hsb l r l' h0 h1 hx
 unfold j4c at hx;have hc':=hc;obtain⟨b0,z0,xs0,rfl,-⟩:=hc';obtain⟨k1,n1,s1,l1,t1,b1,z1,x1,c1,y1,ys1,-,rfl,-⟩:=ha.open;obtain⟨k2,n2,s2,l2,t2,b2,z2,x2,c2,y2,ys2,-,rfl,-⟩:=hb.open;cases hq:j9F (spF a).1 (spF b).1 with
 |false=>
  rw[hq] at hx hal;cases hx;show Fr _ _ _ _ _ (.ret [bv false]) _
  refine j00 Tryz.func203 rfl rfl rfl ?_;repeat'(first|refine gU ?_|refine gX hSa ?_|refine gX hSb ?_|refine gX hal ?_)<;>conv=>whnf
  all_goals exact gJ
 |true=>
  rw[hq] at hx hal;have hE:=hEq hx;cases r with
  |error e=>
   have hE:Fr _ _ _ _ _ (.pan (j0f e)) l':=hE;show Fr _ _ _ _ _ (.pan (j0f e)) l'
   refine j00 Tryz.func203 rfl rfl rfl ?_;repeat'(first|refine gU ?_|refine gX hSa ?_|refine gX hSb ?_|refine gX hal ?_)<;>conv=>whnf
   refine j8J (st1:=[runB cs tot l,.frz [.ci [.bp 0 0]],.frz [.sl b0 z0 xs0],.box 25 [iv k1,iv n1,sv s1,.sl b1 z1 x1,.sl c1 y1 ys1],.box 25 [iv k2,iv n2,sv s2,.sl b2 z2 x2,.sl c2 y2 ys2],.box 25 [iv ka,iv na,sv s_a,.sl ba zza xa,.sl ca ya ysa],.box 25 [iv kb,iv nb,sv s_b,.sl bb zzb xb,.sl cb yb ysb]]) rfl hE rfl rfl rfl rfl rfl rfl ?_;all_goals try conv=>whnf
   all_goals exact gJ
  |ok q=>
   have hE:Fr _ _ _ _ _ (.ret [bv q]) l':=hE;show Fr _ _ _ _ _ (.ret [bv q]) l'
   refine j00 Tryz.func203 rfl rfl rfl ?_;repeat'(first|refine gU ?_|refine gX hSa ?_|refine gX hSb ?_|refine gX hal ?_)<;>conv=>whnf
   refine j8J (st1:=[runB cs tot l,.frz [.ci [.bp 0 0]],.frz [.sl b0 z0 xs0],.box 25 [iv k1,iv n1,sv s1,.sl b1 z1 x1,.sl c1 y1 ys1],.box 25 [iv k2,iv n2,sv s2,.sl b2 z2 x2,.sl c2 y2 ys2],.box 25 [iv ka,iv na,sv s_a,.sl ba zza xa,.sl ca ya ysa],.box 25 [iv kb,iv nb,sv s_b,.sl bb zzb xb,.sl cb yb ysb]]) rfl hE rfl rfl rfl rfl rfl rfl ?_;repeat'(refine gU ?_)<;>conv=>whnf
   all_goals exact gJ
theorem jaH{k n:Int}{s:List UInt8}{ts:List Tm}(h:i<ts.length):sizT (ts.getD i tz)<sizT (.mk k n s ls ts):=by
 have hm:ts.getD i tz∈ts:=List.mem_of_getElem? (getD_at h);have:∀(ts:List Tm) (t:Tm),t∈ts→sizT t≤j0t ts:=by
  intro ts
  induction ts with
  |nil=>intro t ht;cases ht
  |cons a r ih=>
   intro t ht;rw[j0t];rcases List.mem_cons.1 ht with rfl|ht
   ·omega
   ·have:=ih t ht;omega
 have:=this ts _ hm;rw[sizT];omega
theorem jqG:shT (.mk 1 0 [] [] [])=true:=jie (by omega)
theorem jn6(hS:j5K cs tot S)(fS:∀c a b,Fine (S c a b))(ctx:List Tm)(cv:PV)(hc:CtxP ctx cv)(a:Tm)(av:PV)(ha:TmP a av)(sa:shT a=true)(za:sizT a≤2000)(b:Tm)(wv:PV)(hb:TmP b wv)(sb:shT b=true)(zb:sizT b≤2000)(l:Int)(r:Except Int Bool)(l':Int)(h0:0≤l)(h1:l≤tot)(hk:a.kind=5)(hx:etaB S ctx a b l=some (r,l')):
  CrB 205 [.ci [.bp 0 0],cv,av,wv] cs tot l r l':=by
 unfold etaB at hx;have hc':=hc;obtain⟨b0,z0,xs0,rfl,-⟩:=hc';obtain⟨k1,n1,s1,l1,t1,b1,z1,x1,c1,y1,ys1,rfl,rfl,-,-,-,-,hy1,hys1,-⟩:=ha.open;obtain⟨a1,a2,a3,a4,a5,a6⟩:=j0s sa;simp only[Tm.kind] at hk;subst hk;have hlen2:t1.length=2:=by
  have e:j1f 5=2:=rfl;omega
 obtain⟨v0,hv0,h0'⟩:=hys1.at (getD_at (ts:=t1) (i:=0) (by omega))
 obtain⟨v1,hv1,h1'⟩:=hys1.at (getD_at (ts:=t1) (i:=1) (by omega))
 have m0:t1.getD 0 tz∈t1:=List.mem_of_getElem? (getD_at (by omega))
 have m1:t1.getD 1 tz∈t1:=List.mem_of_getElem? (getD_at (by omega))
 have e0:(Tm.mk 5 n1 s1 l1 t1).arg 0=t1.getD 0 tz:=rfl;have e1:(Tm.mk 5 n1 s1 l1 t1).arg 1=t1.getD 1 tz:=rfl;have sz1:=jaH (k:=5) (n:=n1) (s:=s1) (ls:=l1) (ts:=t1) (i:=1) (by omega)
 rw[e0,e1] at hx;have hL:=jiD b wv hb 1 0;have hoW:TmW ((j7c b 1 0).getD tz):=j7k fun x hx=>jiC hb.w hx
 rw[j5B] at hL;have hoS:∀x,j7c b 1 0=some x→shT x=true:=fun x hx=>jiB hx
 generalize j7c b 1 0=o at *;cases hb.c;cases h0'.c;cases h1'.c;unfold TmW at hoW;obtain⟨k9,n9,s9,b9,z9,x9,c9,y9,ys9,he9⟩:=j07 (o.getD tz);rw[he9] at hL hoW;rcases j09 hx with⟨e,q1,rfl⟩|⟨up,la,q1,q2⟩
 ·obtain⟨rfl,rfl,hfi⟩:=j2v o _ hoW q1;show Fr _ _ _ _ _ (.pan (j0f 15)) l'
  refine j00 Tryz.func205 rfl rfl rfl ?_;repeat'(first|refine gX hL ?_|refine j0y hfi rfl rfl ?_)<;>conv=>whnf
  all_goals exact gJ
 obtain⟨rfl,rfl,hzu,hfi⟩:=j2v o _ hoW q1;have hup:TmP up (.ag [iv k9,iv n9,sv s9,.sl b9 z9 x9,.sl c9 y9 ys9]):=hoW;rcases j09 q2 with⟨e,q3,rfl⟩|⟨c2',lb,q3,q4⟩
 ·obtain⟨rfl,rfl,hw⟩:=j3b ctx _ hc _ _ h0' (a5 _ m0) q3;show Fr _ _ _ _ _ (.pan (j0f 15)) l'
  refine j00 Tryz.func205 rfl rfl rfl ?_;repeat'(first|refine gU ?_|refine gX hL ?_|refine gX hfi ?_|refine VIdx.mk _ hv0 ?_|refine VIdx.mk _ hv1 ?_|refine gZ hy1 ?_|refine j1m hw fun _=>?_|apply gK)<;>conv=>whnf
  all_goals exact gJ
 obtain⟨rfl,rfl,wc,hwc,hw⟩:=j3b ctx _ hc _ _ h0' (a5 _ m0) q3;have hwc':=hwc;obtain⟨b7,z7,x7,rfl,-⟩:=hwc';have hvar:=jhb 0;have hva:TmP (.mk 1 0 [] [] []) (encT (.mk 1 0 [] [] [])):=jik (by unfold i64;omega)
 have hev:encT (.mk 1 0 [] [] [])=.ag [iv 1,iv 0,sv [],.sl true 0 [],.sl true 0 []]:=by rw[j2N];rfl
 rw[hev] at hvar hva;have happ:=j7P up _ hup [.mk 1 0 [] [] []] true 5 [.ag [iv 1,iv 0,sv [],.sl true 0 [],.sl true 0 []]] (.inl rfl) ⟨_,[],rfl,hva,rfl⟩ (by simp)
 have hapW:TmP (appF up [.mk 1 0 [] [] []]) (appV (encT up) [.mk 1 0 [] [] []]):=jhg hup.w (fun x hx=>by rw[List.mem_singleton.1 hx];exact hva.w)
 have haps:shT (appF up [.mk 1 0 [] [] []])=true:=jhf _ _ (hoS _ rfl) (fun x hx=>by rw[List.mem_singleton.1 hx];exact jqG)
 obtain⟨ku,nu,su,bu,zu,xu,cu,yu,ysu,heu⟩:=j07 up;rw[heu] at happ hapW;obtain⟨k5,n5,s5,b5,z5,x5,c5,y5,ys5,he5⟩:=j7Q [.mk 1 0 [] [] []] ku nu su bu zu xu cu yu ysu;rw[he5] at happ hapW;generalize appF up [.mk 1 0 [] [] []]=ap at *;have hapW':TmP ((some ap).getD tz) (.ag [iv k5,iv n5,sv s5,.sl b5 z5 x5,.sl c5 y5 ys5]):=hapW;rcases j09 q4 with⟨e,q5,rfl⟩|⟨u,lc,q5,q6⟩
 ·obtain⟨rfl,rfl,hf2⟩:=j2v _ _ hapW' q5;show Fr _ _ _ _ _ (.pan (j0f 15)) l'
  refine j00 Tryz.func205 rfl rfl rfl ?_;repeat'(first|refine gU ?_|refine gX hL ?_|refine gX hfi ?_|refine VIdx.mk _ hv0 ?_|refine VIdx.mk _ hv1 ?_|refine gZ hy1 ?_|refine j01 hw fun _=>?_|refine j01 hvar fun _=>?_|refine j01 happ fun _=>?_|refine j1m hf2 fun _=>?_|apply gK)<;>conv=>whnf
  all_goals exact gJ
 obtain⟨rfl,eu,hzap,hf2⟩:=j2v _ _ hapW' q5;cases eu;have hs:=hS _ _ hwc _ _ h1' (a5 _ m1) (by omega) _ _ hapW haps hzap lc r l' h0 h1 q6
 cases r with
 |error e=>
  have hs:Fr _ _ _ _ _ (.pan (j0f e)) l':=hs;show Fr _ _ _ _ _ (.pan (j0f e)) l'
  refine j00 Tryz.func205 rfl rfl rfl ?_;repeat'(first|refine gU ?_|refine gX hL ?_|refine gX hfi ?_|refine VIdx.mk _ hv0 ?_|refine VIdx.mk _ hv1 ?_|refine gZ hy1 ?_|refine j01 hw fun _=>?_|refine j01 hvar fun _=>?_|refine j01 happ fun _=>?_|refine j01 hf2 fun _=>?_|refine gW hs ?_|apply gK)<;>conv=>whnf
  all_goals exact gJ
 |ok q=>
  have hs:Fr _ _ _ _ _ (.ret [bv q]) l':=hs;show Fr _ _ _ _ _ (.ret [bv q]) l'
  refine j00 Tryz.func205 rfl rfl rfl ?_;repeat'(first|refine gU ?_|refine gX hL ?_|refine gX hfi ?_|refine VIdx.mk _ hv0 ?_|refine VIdx.mk _ hv1 ?_|refine gZ hy1 ?_|refine j01 hw fun _=>?_|refine j01 hvar fun _=>?_|refine j01 happ fun _=>?_|refine j01 hf2 fun _=>?_|refine gW hs ?_|apply gK)<;>conv=>whnf
  all_goals exact gJ
end Go.Proofs.YtbnodhcijeaceaaGreatDoor

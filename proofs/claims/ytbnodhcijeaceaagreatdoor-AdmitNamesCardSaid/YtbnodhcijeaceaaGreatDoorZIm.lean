/- Two terms in weak head normal form that are one by their forms (package conv). -/
import Derived.Test.YtbnodhcijeaceaaGreatDoorZIh
set_option linter.all false
set_option maxHeartbeats 8000000
set_option maxRecDepth 100000
namespace Go.Proofs.YtbnodhcijeaceaaGreatDoor
open Go Go.Am Go.Gw
variable{r:AEnd}{K:AEnd→Sto→Prop}{f:FuncId}{l l' tot:Int}{args args0 cs:List PV}{T:List Tm→Tm→M Tm}{S:List Tm→Tm→Tm→M Bool}{i:Nat}{st:Sto}{W:Tm→M Tm}
theorem CrB.via{f':FuncId}{args':List PV}{la:Int}{r:Except Int Bool}(h:CrB f args cs tot l r l')(h1:∀e,Fr f args cs tot l (.pan (j0f e)) l'→Fr f' args' cs tot la (.pan (j0f e)) l')(h2:∀q,Fr f args cs tot l (.ret [bv q]) l'→Fr f' args' cs tot la (.ret [bv q]) l'):CrB f' args' cs tot la r l':=by
 cases r with
 |error e=>exact h1 e h
 |ok q=>exact h2 q h
theorem jea(hS:j5K cs tot S)(fS:∀c a b,Fine (S c a b))(ctx:List Tm)(cv:PV)(hc:CtxP ctx cv)(a:Tm)(av:PV)(ha:TmP a av)(sa:shT a=true)(za:sizT a≤2000)(b:Tm)(wv:PV)(hb:TmP b wv)(sb:shT b=true)(zb:sizT b≤2000)(l:Int)(r:Except Int Bool)(l':Int)(h0:0≤l)(h1:l≤tot)(hk:a.kind=2∧b.kind=2)(hx:j3S S ctx a b l=some (r,l')):
  CrB 147 [.ci [.bp 0 0],cv,av,wv] cs tot l r l':=by
 unfold j3S at hx;rw[if_pos hk] at hx;cases hx;obtain⟨b0,z0,xs0,rfl,-⟩:=hc;obtain⟨k1,n1,s1,l1,t1,b1,z1,x1,c1,y1,ys1,rfl,rfl,hz1,hx1,-⟩:=ha.open;obtain⟨k2,n2,s2,l2,t2,b2,z2,x2,c2,y2,ys2,rfl,rfl,hz2,hx2,-⟩:=hb.open;obtain⟨a1,a2,a3,a4,a5,a6⟩:=j0s sa;obtain⟨d1,d2,d3,d4,d5,d6⟩:=j0s sb;simp only[Tm.kind] at hk;obtain⟨rfl,rfl⟩:=hk;have e:j0O 2=1:=rfl;have hl1:l1.length=1:=by
  have:=a4 (by omega)
  omega
 have hl2:l2.length=1:=by
  have:=d4 (by omega)
  omega
 obtain⟨v1,hv1,hl⟩:=hx1.at (show l1[0]?=some (l1.getD 0 (.mk 0 0 [])) by rw[List.getD_eq_getElem?_getD,List.getElem?_eq_getElem (by omega)];rfl)
 obtain⟨v2,hv2,hm⟩:=hx2.at (show l2[0]?=some (l2.getD 0 (.mk 0 0 [])) by rw[List.getD_eq_getElem?_getD,List.getElem?_eq_getElem (by omega)];rfl)
 have hsm:=jfe _ v1 hl _ v2 hm;have e1:(Tm.mk 2 n1 s1 l1 t1).lv=l1.getD 0 (.mk 0 0 []):=rfl;have e2:(Tm.mk 2 n2 s2 l2 t2).lv=l2.getD 0 (.mk 0 0 []):=rfl;rw[e1,e2];cases hl.c;cases hm.c;show Fr _ _ _ _ _ (.ret [bv (j9V _ _)]) _
 refine j00 Tryz.func147 rfl rfl rfl ?_;repeat'(first|refine gU ?_|refine VIdx.mk _ hv1 ?_|refine VIdx.mk _ hv2 ?_|refine gZ hz1 ?_|refine gZ hz2 ?_|refine j01 hsm fun _=>?_|apply gK)<;>conv=>whnf
 all_goals exact gJ
theorem jhJ(hS:j5K cs tot S)(fS:∀c a b,Fine (S c a b))(ctx:List Tm)(cv:PV)(hc:CtxP ctx cv)(a:Tm)(av:PV)(ha:TmP a av)(sa:shT a=true)(za:sizT a≤2000)(b:Tm)(wv:PV)(hb:TmP b wv)(sb:shT b=true)(zb:sizT b≤2000)(l:Int)(r:Except Int Bool)(l':Int)(h0:0≤l)(h1:l≤tot)(hk:a.kind=b.kind∧(a.kind=6∨a.kind=5))(hx:j3S S ctx a b l=some (r,l')):
  CrB 147 [.ci [.bp 0 0],cv,av,wv] cs tot l r l':=by
 unfold j3S at hx;rw[if_neg (by omega),if_pos hk] at hx
 have hc':=hc;obtain⟨b0,z0,xs0,rfl,-⟩:=hc';obtain⟨k1,n1,s1,l1,t1,b1,z1,x1,c1,y1,ys1,rfl,rfl,-,-,-,-,hy1,hys1,-⟩:=ha.open;obtain⟨k2,n2,s2,l2,t2,b2,z2,x2,c2,y2,ys2,rfl,rfl,-,-,-,-,hy2,hys2,-⟩:=hb.open;obtain⟨a1,a2,a3,a4,a5,a6⟩:=j0s sa;obtain⟨d1,d2,d3,d4,d5,d6⟩:=j0s sb;simp only[Tm.kind] at hk;obtain⟨rfl,hk⟩:=hk;have hsh:j1f k1=2:=by
  rcases hk with rfl|rfl<;>rfl
 have hk2:¬k1=2:=by omega
 have hkk:k1=k1:=rfl;obtain⟨v0,hv0,h0'⟩:=hys1.at (getD_at (ts:=t1) (i:=0) (by omega))
 obtain⟨v1,hv1,h1'⟩:=hys1.at (getD_at (ts:=t1) (i:=1) (by omega))
 obtain⟨w0,hw0,g0'⟩:=hys2.at (getD_at (ts:=t2) (i:=0) (by omega))
 obtain⟨w1,hw1,g1'⟩:=hys2.at (getD_at (ts:=t2) (i:=1) (by omega))
 have m0:t1.getD 0 tz∈t1:=List.mem_of_getElem? (getD_at (by omega))
 have m1:t1.getD 1 tz∈t1:=List.mem_of_getElem? (getD_at (by omega))
 have q0:t2.getD 0 tz∈t2:=List.mem_of_getElem? (getD_at (by omega))
 have q1:t2.getD 1 tz∈t2:=List.mem_of_getElem? (getD_at (by omega))
 have u0:=jaH (k:=k1) (n:=n1) (s:=s1) (ls:=l1) (ts:=t1) (i:=0) (by omega)
 have u1:=jaH (k:=k1) (n:=n1) (s:=s1) (ls:=l1) (ts:=t1) (i:=1) (by omega)
 have u2:=jaH (k:=k1) (n:=n2) (s:=s2) (ls:=l2) (ts:=t2) (i:=0) (by omega)
 have u3:=jaH (k:=k1) (n:=n2) (s:=s2) (ls:=l2) (ts:=t2) (i:=1) (by omega)
 have e0:(Tm.mk k1 n1 s1 l1 t1).arg 0=t1.getD 0 tz:=rfl;have e1:(Tm.mk k1 n1 s1 l1 t1).arg 1=t1.getD 1 tz:=rfl;have e2:(Tm.mk k1 n2 s2 l2 t2).arg 0=t2.getD 0 tz:=rfl;have e3:(Tm.mk k1 n2 s2 l2 t2).arg 1=t2.getD 1 tz:=rfl;rw[e0,e1,e2,e3] at hx;have hsa:=fun l r l' h0 h1=>hS ctx _ hc _ _ h0' (a5 _ m0) (by omega) _ _ g0' (d5 _ q0) (by omega) l r l' h0 h1
 have hsb:=fun c wc hc l r l' h0 h1=>hS c wc hc _ _ h1' (a5 _ m1) (by omega) _ _ g1' (d5 _ q1) (by omega) l r l' h0 h1
 cases h0'.c;cases h1'.c;cases g0'.c;cases g1'.c;rcases j09 hx with⟨e,p1,rfl⟩|⟨q,la,p1,p2⟩
 ·have hf:Fr _ _ _ _ _ (.pan (j0f e)) l':=hsa l _ l' h0 h1 p1;show Fr _ _ _ _ _ (.pan (j0f e)) l'
  refine j00 Tryz.func147 rfl rfl rfl ?_;repeat'(first|refine gU ?_|apply gE<;>intro h|refine VIdx.mk _ hv0 ?_|refine VIdx.mk _ hw0 ?_|refine gZ hy1 ?_|refine gZ hy2 ?_|refine gW hf ?_|apply gK)<;>conv=>whnf
  all_goals exact gJ
 have hf:Fr _ _ _ _ _ (.ret [bv q]) la:=hsa l _ la h0 h1 p1;have hd:=(fS ctx _ _).dn l _ la h0 p1;cases q with
 |false=>
  cases p2;show Fr _ _ _ _ _ (.ret [bv false]) _
  refine j00 Tryz.func147 rfl rfl rfl ?_;repeat'(first|refine gU ?_|apply gE<;>intro h|refine VIdx.mk _ hv0 ?_|refine VIdx.mk _ hw0 ?_|refine gZ hy1 ?_|refine gZ hy2 ?_|refine gW hf ?_|apply gK)<;>conv=>whnf
  all_goals exact gJ
 |true=>
  have p2:(bnd (j8M ctx (t1.getD 0 tz)) fun c2=>S c2 (t1.getD 1 tz) (t2.getD 1 tz)) la=some (r,l'):=p2
  rcases j09 p2 with⟨e,p3,rfl⟩|⟨c2',lb,p3,p4⟩
  ·obtain⟨rfl,rfl,hw⟩:=j3b ctx _ hc _ _ h0' (a5 _ m0) p3;show Fr _ _ _ _ _ (.pan (j0f 15)) l'
   refine j00 Tryz.func147 rfl rfl rfl ?_;repeat'(first|refine gU ?_|apply gE<;>intro h|refine VIdx.mk _ hv0 ?_|refine VIdx.mk _ hw0 ?_|refine VIdx.mk _ hv1 ?_|refine VIdx.mk _ hw1 ?_|refine gZ hy1 ?_|refine gZ hy2 ?_|refine gW hf ?_|refine j1m hw fun _=>?_|apply gK)<;>conv=>whnf
   all_goals exact gJ
  obtain⟨rfl,rfl,wc,hwc,hw⟩:=j3b ctx _ hc _ _ h0' (a5 _ m0) p3;have hwc':=hwc;obtain⟨b7,z7,x7,rfl,-⟩:=hwc';have hg:=hsb _ _ hwc lb r l' (by omega) (by omega) p4
  cases r with
  |error e=>
   have hg:Fr _ _ _ _ _ (.pan (j0f e)) l':=hg;show Fr _ _ _ _ _ (.pan (j0f e)) l'
   refine j00 Tryz.func147 rfl rfl rfl ?_;repeat'(first|refine gU ?_|apply gE<;>intro h|refine VIdx.mk _ hv0 ?_|refine VIdx.mk _ hw0 ?_|refine VIdx.mk _ hv1 ?_|refine VIdx.mk _ hw1 ?_|refine gZ hy1 ?_|refine gZ hy2 ?_|refine gW hf ?_|refine j01 hw fun _=>?_|refine gW hg ?_|apply gK)<;>conv=>whnf
   all_goals exact gJ
  |ok q=>
   have hg:Fr _ _ _ _ _ (.ret [bv q]) l':=hg;show Fr _ _ _ _ _ (.ret [bv q]) l'
   refine j00 Tryz.func147 rfl rfl rfl ?_;repeat'(first|refine gU ?_|apply gE<;>intro h|refine VIdx.mk _ hv0 ?_|refine VIdx.mk _ hw0 ?_|refine VIdx.mk _ hv1 ?_|refine VIdx.mk _ hw1 ?_|refine gZ hy1 ?_|refine gZ hy2 ?_|refine gW hf ?_|refine j01 hw fun _=>?_|refine gW hg ?_|apply gK)<;>conv=>whnf
   all_goals exact gJ
theorem jg5(hS:j5K cs tot S)(fS:∀c a b,Fine (S c a b))(ctx:List Tm)(cv:PV)(hc:CtxP ctx cv)(a:Tm)(av:PV)(ha:TmP a av)(sa:shT a=true)(za:sizT a≤2000)(b:Tm)(wv:PV)(hb:TmP b wv)(sb:shT b=true)(zb:sizT b≤2000)(l:Int)(r:Except Int Bool)(l':Int)(h0:0≤l)(h1:l≤tot)(hx:j3S S ctx a b l=some (r,l')):
  CrB 147 [.ci [.bp 0 0],cv,av,wv] cs tot l r l':=by
 by_cases c1:a.kind=2∧b.kind=2
 ·exact jea hS fS ctx cv hc a av ha sa za b wv hb sb zb l r l' h0 h1 c1 hx
 by_cases c2:a.kind=b.kind∧(a.kind=6∨a.kind=5)
 ·exact jhJ hS fS ctx cv hc a av ha sa za b wv hb sb zb l r l' h0 h1 c2 hx
 have he1:=fun hk hx=>jn6 hS fS ctx cv hc a av ha sa za b wv hb sb zb l r l' h0 h1 hk hx
 have he2:=fun hk hx=>jn6 hS fS ctx cv hc b wv hb sb zb a av ha sa za l r l' h0 h1 hk hx
 have hsp:=fun hx=>jdp hS fS ctx cv hc a av ha sa za b wv hb sb zb l r l' h0 h1 hx
 unfold j3S at hx;rw[if_neg c1,if_neg c2] at hx;obtain⟨b0,z0,xs0,rfl,-⟩:=hc;obtain⟨k1,n1,s1,l1,t1,b1,z1,x1,c1',y1,ys1,rfl,rfl,-⟩:=ha.open;obtain⟨k2,n2,s2,l2,t2,b2,z2,x2,c2',y2,ys2,rfl,rfl,-⟩:=hb.open;have k1e:(Tm.mk k1 n1 s1 l1 t1).kind=k1:=rfl;have k2e:(Tm.mk k2 n2 s2 l2 t2).kind=k2:=rfl;rw[k1e] at c1 c2 he1 hx;rw[k2e] at c1 c2 he2 hx
 by_cases c3:k1=5
 ·rw[if_pos c3] at hx;refine CrB.via (he1 c3 hx) (fun e hf=>?_) (fun q hf=>?_)
  ·show Fr _ _ _ _ _ (.pan (j0f e)) l'
   refine j00 Tryz.func147 rfl rfl rfl ?_;repeat'(first|refine gU ?_|apply gE<;>intro h|refine gW hf ?_)<;>conv=>whnf
   all_goals exact gJ
  ·show Fr _ _ _ _ _ (.ret [bv q]) l'
   refine j00 Tryz.func147 rfl rfl rfl ?_;repeat'(first|refine gU ?_|apply gE<;>intro h|refine gW hf ?_)<;>conv=>whnf
   all_goals exact gJ
 rw[if_neg c3] at hx
 by_cases c4:k2=5
 ·rw[if_pos c4] at hx;refine CrB.via (he2 c4 hx) (fun e hf=>?_) (fun q hf=>?_)
  ·show Fr _ _ _ _ _ (.pan (j0f e)) l'
   refine j00 Tryz.func147 rfl rfl rfl ?_;repeat'(first|refine gU ?_|apply gE<;>intro h|refine gW hf ?_)<;>conv=>whnf
   all_goals exact gJ
  ·show Fr _ _ _ _ _ (.ret [bv q]) l'
   refine j00 Tryz.func147 rfl rfl rfl ?_;repeat'(first|refine gU ?_|apply gE<;>intro h|refine gW hf ?_)<;>conv=>whnf
   all_goals exact gJ
 rw[if_neg c4] at hx;refine CrB.via (hsp hx) (fun e hf=>?_) (fun q hf=>?_)
 ·show Fr _ _ _ _ _ (.pan (j0f e)) l'
  refine j00 Tryz.func147 rfl rfl rfl ?_;repeat'(first|refine gU ?_|apply gE<;>intro h|refine gW hf ?_)<;>conv=>whnf
  all_goals exact gJ
 ·show Fr _ _ _ _ _ (.ret [bv q]) l'
  refine j00 Tryz.func147 rfl rfl rfl ?_;repeat'(first|refine gU ?_|apply gE<;>intro h|refine gW hf ?_)<;>conv=>whnf
  all_goals exact gJ
open Go Go.Am Go.Gw
theorem j1y(e:Int):Pf C1 140 [j0f e] [iv e]:=by
 refine j00 Tryz.func140 rfl rfl rfl ?_;repeat'(first|refine gU ?_|refine VRes.mk _ jrk ?_)<;>conv=>whnf
 all_goals rfl
theorem j5f:Pf C1 140 [.sc .nilIface] [iv 0]:=by
 refine j00 Tryz.func140 rfl rfl rfl ?_;repeat'(first|refine gU ?_|refine VRes.mk _ jrj ?_)<;>conv=>whnf
 all_goals rfl
def CrP(args cs:List PV)(tot l:Int)(r:Except Int (Option Tm))(l':Int):Prop:=match r with
 | .ok (some x)=>shT x=true∧sizT x≤2000∧∃w,TmP x w∧Fr 95 args cs tot l (.ret [w,bv true]) l'
 | .ok none=>∃k n s b z xs c y ys,Fr 95 args cs tot l (.ret [.ag [iv k,iv n,sv s,.sl b z xs,.sl c y ys],bv false]) l'
 | .error e=>Fr 95 args cs tot l (.pan (j0f e)) l'
theorem jjD(ht:tot≤1048576)(hW:WOk cs tot W)(hT:jcc cs tot T)(fW:∀t,Fine (W t))(fT:∀c t,Fine (T c t))(ctx:List Tm)(cv:PV)(hc:CtxP ctx cv)(t:Tm)(v:PV)(h:TmP t v)(hs:shT t=true)(l:Int)(r:Except Int (Option Tm))(l':Int)(h0:0≤l)(h1:l≤tot)(hx:jby W T ctx t l=some (r,l')):CrP [.ci [.bp 0 0],cv,v] cs tot l r l':=by
 have hSo:=jfI ht hW hT fW fT;have hc':=hc;obtain⟨b,z,xs,rfl,-⟩:=hc';have h':=h;obtain⟨k1,n1,s1,l1,t1,b1,z1,x1,c1,y1,ys1,-,rfl,-⟩:=h'.open;unfold jby jrz at hx;have herr:∀e,(bnd j5G fun _=>bnd (T ctx t) fun ty=>bnd (sortB W T ctx ty) fun s=>mok (match jc7 s with
   |true=>some ty
   |false=>none)) l=some (.error e,l')→∀(hq:(e=22∨e=15)∨¬(e=22∨e=15)),CrP [.ci [.bp 0 0],.sl b z xs,.ag [iv k1,iv n1,sv s1,.sl b1 z1 x1,.sl c1 y1 ys1]] cs tot l (match decide (e=22)||decide (e=15) with
   |true=>.error e
   |false=>.ok none) l':=by
  intro e hy hq;have hne:¬e=0:=fun e0=>by
   subst e0;exact(j06 j3Q fun _=>j06 (fT ctx t) fun ty=>j06 (j3f fW fT ctx ty) fun s=>j0o _).nz _ _ hy
  rcases j09 hy with⟨e,q1,e1⟩|⟨u0,la,q1,q2⟩
  ·cases e1;rcases j1d q1 with⟨a1,a2,a3⟩|⟨a1,a2,a3⟩
   ·cases a3
   ·cases a3;subst a2;have hk:=jab cs tot l' a1;show Fr _ _ _ _ _ (.pan (j0f 22)) l'
    refine j0J Tryz.func95 rfl rfl rfl ?_;repeat'(first|refine gW hk ?_)<;>conv=>whnf
    refine⟨_,_,_,_,_,_,rfl,rfl,rfl,rfl,?_⟩;repeat'(first|refine gU ?_|refine gX (j1y _) ?_)<;>conv=>whnf
    all_goals exact gJ
  rcases j1d q1 with⟨a1,a2,a3⟩|⟨a1,a2,a3⟩
  rotate_left
  ·cases a3
  subst a2;have hk:=j7V cs tot l a1 h1 ht;rcases j09 q2 with⟨e,q3,e1⟩|⟨y,lb,q3,q4⟩
  ·cases e1;obtain⟨-,hf⟩:=hT ctx _ hc t _ h hs (l-1) _ l' (by omega) (by omega) q3
   have hf:Fr _ _ _ _ _ (.pan (j0f e)) l':=hf;rcases hq with hq|hq
   ·have e2:(decide (e=22)||decide (e=15))=true:=by simpa using hq
    rw[e2];show Fr _ _ _ _ _ (.pan (j0f e)) l'
    refine j0J Tryz.func95 rfl rfl rfl ?_;repeat'(first|refine gW hk ?_|refine gW hf ?_)<;>conv=>whnf
    refine⟨_,_,_,_,_,_,rfl,rfl,rfl,rfl,?_⟩;repeat'(first|refine gU ?_|apply gE<;>intro h|refine gX (j1y _) ?_)<;>conv=>whnf
    all_goals exact gJ
   ·have e2:(decide (e=22)||decide (e=15))=false:=by simpa using hq
    rw[e2];refine⟨0,0,[],true,0,[],true,0,[],?_⟩;refine j0J Tryz.func95 rfl rfl rfl ?_;repeat'(first|refine gW hk ?_|refine gW hf ?_)<;>conv=>whnf
    refine⟨_,_,_,_,_,_,rfl,rfl,rfl,rfl,?_⟩;repeat'(first|refine gU ?_|apply gE<;>intro h|refine gX (j1y _) ?_)<;>conv=>whnf
    all_goals exact gJ
  obtain⟨hy',wy,hwy,hf⟩:=hT ctx _ hc t _ h hs (l-1) _ lb (by omega) (by omega) q3
  obtain⟨hys,hyz⟩:=hy' y rfl;have hd:=(fT ctx t).dn (l-1) _ lb (by omega) q3
  rcases j09 q4 with⟨e,q5,e1⟩|⟨s,lc,q5,q6⟩
  ·cases e1;have hg:Fr _ _ _ _ _ (.pan (j0f e)) l':=hSo ctx _ hc y _ hwy hys lb _ l' (by omega) (by omega) q5
   cases hwy.c;rcases hq with hq|hq
   ·have e2:(decide (e=22)||decide (e=15))=true:=by simpa using hq
    rw[e2];show Fr _ _ _ _ _ (.pan (j0f e)) l'
    refine j0J Tryz.func95 rfl rfl rfl ?_;repeat'(first|refine gU ?_|refine gW hk ?_|refine gW hf ?_|refine gW hg ?_|apply gK)<;>conv=>whnf
    refine⟨_,_,_,_,_,_,rfl,rfl,rfl,rfl,?_⟩;repeat'(first|refine gU ?_|apply gE<;>intro h|refine gX (j1y _) ?_)<;>conv=>whnf
    all_goals exact gJ
   ·have e2:(decide (e=22)||decide (e=15))=false:=by simpa using hq
    rw[e2];refine⟨0,0,[],true,0,[],true,0,[],?_⟩;refine j0J Tryz.func95 rfl rfl rfl ?_;repeat'(first|refine gU ?_|refine gW hk ?_|refine gW hf ?_|refine gW hg ?_|apply gK)<;>conv=>whnf
    refine⟨_,_,_,_,_,_,rfl,rfl,rfl,rfl,?_⟩;repeat'(first|refine gU ?_|apply gE<;>intro h|refine gX (j1y _) ?_)<;>conv=>whnf
    all_goals exact gJ
  ·cases q6
 rcases j3M hx with⟨o,hy,rfl⟩|⟨e,he,hy,rfl⟩|⟨e,he,hy,rfl⟩
 ·rcases j09 hy with⟨e,q1,e1⟩|⟨u0,la,q1,q2⟩
  ·cases e1
  rcases j1d q1 with⟨a1,a2,a3⟩|⟨a1,a2,a3⟩
  rotate_left
  ·cases a3
  subst a2;have hk:=j7V cs tot l a1 h1 ht;rcases j09 q2 with⟨e,q3,e1⟩|⟨y,lb,q3,q4⟩
  ·cases e1
  obtain⟨hy',wy,hwy,hf⟩:=hT ctx _ hc t _ h hs (l-1) _ lb (by omega) (by omega) q3
  obtain⟨hys,hyz⟩:=hy' y rfl;have hd:=(fT ctx t).dn (l-1) _ lb (by omega) q3
  rcases j09 q4 with⟨e,q5,e1⟩|⟨s,lc,q5,q6⟩
  ·cases e1
  obtain⟨wl,hwl,hg⟩:=hSo ctx _ hc y _ hwy hys lb _ lc (by omega) (by omega) q5
  have hz:=jdE s wl hwl;obtain⟨k2,n2,s2,l2,t2,b2,z2,x2,c2,y2,ys2,-,rfl,-⟩:=hwy.open;cases hwl.c;cases hzq:jc7 s with
  |true=>
   rw[hzq] at q6 hz;cases q6;refine⟨hys,hyz,_,hwy,?_⟩;refine j0J Tryz.func95 rfl rfl rfl ?_;repeat'(first|refine gU ?_|refine gW hk ?_|refine gW hf ?_|refine gW hg ?_|refine j01 hz fun _=>?_|apply gK)<;>conv=>whnf
   refine⟨_,_,_,_,_,_,rfl,rfl,rfl,rfl,?_⟩;repeat'(first|refine gU ?_|refine gX j5f ?_)<;>conv=>whnf
   all_goals exact gJ
  |false=>
   rw[hzq] at q6 hz;cases q6;refine⟨k2,n2,s2,b2,z2,x2,c2,y2,ys2,?_⟩
   ·refine j0J Tryz.func95 rfl rfl rfl ?_;repeat'(first|refine gU ?_|refine gW hk ?_|refine gW hf ?_|refine gW hg ?_|refine j01 hz fun _=>?_|apply gK)<;>conv=>whnf
    refine⟨_,_,_,_,_,_,rfl,rfl,rfl,rfl,?_⟩;repeat'(first|refine gU ?_|refine gX j5f ?_)<;>conv=>whnf
    all_goals exact gJ
 ·have:=herr e hy (.inl he);have e2:(decide (e=22)||decide (e=15))=true:=by simpa using he
  rw[e2] at this;exact this
 ·have:=herr e hy (.inr he);have e2:(decide (e=22)||decide (e=15))=false:=by simpa using he
  rw[e2] at this;exact this
open Go Go.Am Go.Gw
theorem jdd(ht:tot≤1048576)(hW:WOk cs tot W)(hT:jcc cs tot T)(fW:∀t,Fine (W t))(fT:∀c t,Fine (T c t))(hS:j5K cs tot S)(fS:∀c a b,Fine (S c a b))(ctx:List Tm)(cv:PV)(hc:CtxP ctx cv)(a:Tm)(av:PV)(ha:TmP a av)(sa:shT a=true)(za:sizT a≤2000)(b:Tm)(wv:PV)(hb:TmP b wv)(sb:shT b=true)(zb:sizT b≤2000)(l:Int)(r:Except Int Bool)(l':Int)(h0:0≤l)(h1:l≤tot)(hx:j2C W T S ctx a b l=some (r,l')):
  CrB 148 [.ci [.bp 0 0],cv,av,wv] cs tot l r l':=by
 unfold j2C at hx;have fP:=j6e fW fT;have hpa:=fun r l' hx=>jjD ht hW hT fW fT ctx cv hc a av ha sa l r l' h0 h1 hx
 have hpb:=fun l h0 h1 r l' hx=>jjD ht hW hT fW fT ctx cv hc b wv hb sb l r l' h0 h1 hx
 have hsm:=fun p pv hp sp zp q qv hq sq zq l h0 h1 hx=>hS ctx cv hc p pv hp sp zp q qv hq sq zq l r l' h0 h1 hx
 obtain⟨b0,z0,xs0,rfl,-⟩:=hc;cases ha.c;cases hb.c;rcases j09 hx with⟨e,p1,rfl⟩|⟨o,la,p1,p2⟩
 ·have hf:Fr _ _ _ _ _ (.pan (j0f e)) l':=hpa _ _ p1;show Fr _ _ _ _ _ (.pan (j0f e)) l'
  refine j00 Tryz.func148 rfl rfl rfl ?_;repeat'(first|refine gW hf ?_)<;>conv=>whnf
  all_goals exact gJ
 have hd:=(fP ctx a).dn l _ la h0 p1;cases o with
 |none=>
  cases p2;obtain⟨k3,n3,s3,b3,z3,x3,c3,y3,ys3,hf⟩:=hpa _ _ p1;show Fr _ _ _ _ _ (.ret [bv false]) _
  refine j00 Tryz.func148 rfl rfl rfl ?_;repeat'(first|refine gU ?_|refine gW hf ?_)<;>conv=>whnf
  all_goals exact gJ
 |some p=>
  obtain⟨sp,zp,wp,hwp,hf⟩:=hpa _ _ p1;have hwp':=hwp;cases hwp'.c;have p2:(bnd (jby W T ctx b) fun q=>match q with
   |none=>mok false
   |some q=>S ctx p q) la=some (r,l'):=p2
  rcases j09 p2 with⟨e,p3,rfl⟩|⟨o,lb,p3,p4⟩
  ·have hg:Fr _ _ _ _ _ (.pan (j0f e)) l':=hpb la (by omega) (by omega) _ _ p3
   show Fr _ _ _ _ _ (.pan (j0f e)) l'
   refine j00 Tryz.func148 rfl rfl rfl ?_;repeat'(first|refine gU ?_|refine gW hf ?_|refine gW hg ?_)<;>conv=>whnf
   all_goals exact gJ
  have hd2:=(fP ctx b).dn la _ lb (by omega) p3
  cases o with
  |none=>
   cases p4;obtain⟨k4,n4,s4,b4,z4,x4,c4,y4,ys4,hg⟩:=hpb la (by omega) (by omega) _ _ p3
   show Fr _ _ _ _ _ (.ret [bv false]) _
   refine j00 Tryz.func148 rfl rfl rfl ?_;repeat'(first|refine gU ?_|refine gW hf ?_|refine gW hg ?_)<;>conv=>whnf
   all_goals exact gJ
  |some q=>
   obtain⟨sq,zq,wq,hwq,hg⟩:=hpb la (by omega) (by omega) _ _ p3
   have hwq':=hwq;cases hwq'.c;refine CrB.via (hsm p _ hwp sp zp q _ hwq sq zq lb (by omega) (by omega) p4) (fun e hh=>?_) (fun q hh=>?_)
   ·refine j00 Tryz.func148 rfl rfl rfl ?_;repeat'(first|refine gU ?_|refine gW hf ?_|refine gW hg ?_|refine gW hh ?_)<;>conv=>whnf
    all_goals exact gJ
   ·refine j00 Tryz.func148 rfl rfl rfl ?_;repeat'(first|refine gU ?_|refine gW hf ?_|refine gW hg ?_|refine gW hh ?_)<;>conv=>whnf
    all_goals exact gJ
def CrZ(args cs:List PV)(tot l:Int)(q:Bool)(r:Except Int Bool)(l':Int):Prop:=match r with
 | .ok p=>Fr 145 args cs tot l (.ret [bv q,bv p]) l'
 | .error e=>Fr 145 args cs tot l (.pan (j0f e)) l'
theorem jjj(hS:j5K cs tot S)(fS:∀c a b,Fine (S c a b))(ctx:List Tm)(cv:PV)(hc:CtxP ctx cv)(a:Tm)(av:PV)(ha:TmP a av)(sa:shT a=true)(za:sizT a≤2000)(b:Tm)(wv:PV)(hb:TmP b wv)(sb:shT b=true)(zb:sizT b≤2000)(l:Int)(r:Except Int Bool)(l':Int)(h0:0≤l)(h1:l≤tot)(hx:j8k S ctx a b l=some (r,l')):
  CrZ [.ci [.bp 0 0],cv,av,wv] cs tot l (j4v a b) r l':=by
 have hsp:=fun hx=>jdp hS fS ctx cv hc a av ha sa za b wv hb sb zb l r l' h0 h1 hx
 obtain⟨ka,na,s_a,ba,zza,xa,ca,ya,ysa,aba,aza,axa,hSa,hPa,hza,hxa,hla,hsa,hsha⟩:=jar ha sa za;obtain⟨kb,nb,s_b,bb,zzb,xb,cb,yb,ysb,abb,azb,axb,hSb,hPb,hzb,hxb,hlb,hsb,hshb⟩:=jar hb sb zb;have hal:=jcG _ _ hPa _ _ hPb (jrq hsha);have hna:=hxa.len;have hnb:=hxb.len;have hka:=hPa.kind;unfold j8k at hx;have eA:j4v a b=(decide (ka=3)&&(decide (0<axa.length)&&(decide (axa.length=axb.length)&&j9F (spF a).1 (spF b).1))):=by
  unfold j4v;rw[hka,hna,hnb]
 rw[eA] at hx⊢;clear eA;generalize j9F (spF a).1 (spF b).1=al at *;obtain⟨b0,z0,xs0,rfl,-⟩:=hc;obtain⟨k1,n1,s1,l1,t1,b1,z1,x1,c1,y1,ys1,-,rfl,-⟩:=ha.open;obtain⟨k2,n2,s2,l2,t2,b2,z2,x2,c2,y2,ys2,-,rfl,-⟩:=hb.open
 by_cases c1:ka=3
 rotate_left
 ·have e:(decide (ka=3)&&(decide (0<axa.length)&&(decide (axa.length=axb.length)&&al)))=false:=by simp[c1]
  rw[e] at hx⊢;cases hx;show Fr _ _ _ _ _ (.ret [bv false,bv false]) _
  refine j00 Tryz.func145 rfl rfl rfl ?_;repeat'(first|refine gU ?_|refine gX hSa ?_|refine gX hSb ?_)<;>conv=>whnf
  all_goals first|exact⟨rfl,rfl⟩|(exfalso;simp_all;done)|(exfalso;omega)
 by_cases c2:0<axa.length
 rotate_left
 ·have e:(decide (ka=3)&&(decide (0<axa.length)&&(decide (axa.length=axb.length)&&al)))=false:=by simp[c2]
  rw[e] at hx⊢;cases hx;show Fr _ _ _ _ _ (.ret [bv false,bv false]) _
  refine j00 Tryz.func145 rfl rfl rfl ?_;repeat'(first|refine gU ?_|apply gE<;>intro h|apply gM<;>intro h|refine gX hSa ?_|refine gX hSb ?_|refine gX hal ?_)<;>conv=>whnf
  all_goals first|exact⟨rfl,rfl⟩|(exfalso;simp_all;done)|(exfalso;omega)
 by_cases c3:axa.length=axb.length
 rotate_left
 ·have e:(decide (ka=3)&&(decide (0<axa.length)&&(decide (axa.length=axb.length)&&al)))=false:=by simp[c3]
  rw[e] at hx⊢;cases hx;show Fr _ _ _ _ _ (.ret [bv false,bv false]) _
  refine j00 Tryz.func145 rfl rfl rfl ?_;repeat'(first|refine gU ?_|apply gE<;>intro h|apply gM<;>intro h|refine gX hSa ?_|refine gX hSb ?_|refine gX hal ?_)<;>conv=>whnf
  all_goals first|exact⟨rfl,rfl⟩|(exfalso;simp_all;done)|(exfalso;omega)
 cases al with
 |false=>
  have e:(decide (ka=3)&&(decide (0<axa.length)&&(decide (axa.length=axb.length)&&false)))=false:=by simp
  rw[e] at hx⊢;cases hx;show Fr _ _ _ _ _ (.ret [bv false,bv false]) _
  refine j00 Tryz.func145 rfl rfl rfl ?_;repeat'(first|refine gU ?_|apply gE<;>intro h|refine gX hSa ?_|refine gX hSb ?_|refine gX hal ?_)<;>conv=>whnf
  all_goals first|exact⟨rfl,rfl⟩|(exfalso;simp_all;done)|(exfalso;omega)
 |true=>
  have e:(decide (ka=3)&&(decide (0<axa.length)&&(decide (axa.length=axb.length)&&true)))=true:=by rw[decide_eq_true c1,decide_eq_true c2,decide_eq_true c3];rfl
  rw[e] at hx⊢;have hh:=hsp hx;cases r with
  |error e=>
   have hh:Fr _ _ _ _ _ (.pan (j0f e)) l':=hh;show Fr _ _ _ _ _ (.pan (j0f e)) l'
   refine j00 Tryz.func145 rfl rfl rfl ?_;repeat'(first|refine gU ?_|apply gE<;>intro h|refine gX hSa ?_|refine gX hSb ?_|refine gX hal ?_|refine gW hh ?_)<;>conv=>whnf
   all_goals first|exact⟨rfl,rfl⟩|(exfalso;simp_all;done)|(exfalso;omega)
  |ok p=>
   have hh:Fr _ _ _ _ _ (.ret [bv p]) l':=hh;show Fr _ _ _ _ _ (.ret [bv true,bv p]) l'
   refine j00 Tryz.func145 rfl rfl rfl ?_;repeat'(first|refine gU ?_|apply gE<;>intro h|refine gX hSa ?_|refine gX hSb ?_|refine gX hal ?_|refine gW hh ?_)<;>conv=>whnf
   all_goals first|exact⟨rfl,rfl⟩|(exfalso;simp_all;done)|(exfalso;omega)
open Go Go.Am Go.Gw
theorem and3{q e1 e2:Bool}(a:q=true)(b:e1=true)(c:e2=true):(q&&(e1&&e2))=true:=by rw[a,b,c];rfl
theorem joA(ht:tot≤1048576)(hW:WOk cs tot W)(hT:jcc cs tot T)(fW:∀t,Fine (W t))(fT:∀c t,Fine (T c t))(hS:j5K cs tot S)(fS:∀c a b,Fine (S c a b)):j5K cs tot (jic W T S):=by
 intro ctx cv hc a av ha sa za b wv hb sb zb l r l' h0 h1 hx;have hc':=hc;obtain⟨b0,z0,xs0,rfl,-⟩:=hc';have ha':=ha;have hb':=hb;cases ha'.c;cases hb'.c;have hst:false=false:=rfl;unfold jic at hx;rcases j09 hx with⟨e,q1,rfl⟩|⟨u0,la,q1,q2⟩
 ·rcases j1d q1 with⟨a1,a2,a3⟩|⟨a1,a2,a3⟩
  ·cases a3
  ·cases a3;subst a2;have hk:=jab cs tot l' a1;show Fr _ _ _ _ _ (.pan (j0f 22)) l'
   refine j00 Tryz.func89 rfl rfl rfl ?_;repeat'(first|refine gW hk ?_)<;>conv=>whnf
   all_goals first|exact⟨rfl,rfl⟩|(exfalso;omega)|exact absurd ((and3 (by assumption) (by assumption) (by assumption)).symm.trans hst) (by simp)
 rcases j1d q1 with⟨a1,a2,a3⟩|⟨a1,a2,a3⟩
 rotate_left
 ·cases a3
 subst a2;have hk:=j7V cs tot l a1 h1 ht;have hsm:=j7J a _ ha b _ hb;cases heq:eqTm a b with
 |true=>
  rw[heq] at q2 hsm;cases q2;show Fr _ _ _ _ _ (.ret [bv true]) _
  refine j00 Tryz.func89 rfl rfl rfl ?_;repeat'(first|refine gU ?_|refine gW hk ?_|refine gX hsm ?_)<;>conv=>whnf
  all_goals first|exact⟨rfl,rfl⟩|(exfalso;omega)|exact absurd ((and3 (by assumption) (by assumption) (by assumption)).symm.trans hst) (by simp)
 |false=>
 rw[heq] at q2 hsm;have q2:(bnd (j8k S ctx a b) fun ok=>match ok with
  |true=>mok true
  |false=>bnd (W a) fun x=>bnd (W b) fun y=>bnd (j3y S ctx a b x y) fun q=>match q with
   |true=>mok true
   |false=>j2C W T S ctx x y) (l-1)=some (r,l'):=q2
 have flz:Fine (j8k S ctx a b):=by
  unfold j8k;split
  ·exact j5q fS _ _ _
  ·exact j0o _
 rcases j09 q2 with⟨e,q3,rfl⟩|⟨ok,lb,q3,q4⟩
 ·have hz:Fr _ _ _ _ _ (.pan (j0f e)) l':=jjj hS fS ctx _ hc a _ ha sa za b _ hb sb zb (l-1) _ l' (by omega) (by omega) q3
  show Fr _ _ _ _ _ (.pan (j0f e)) l'
  refine j00 Tryz.func89 rfl rfl rfl ?_;repeat'(first|refine gU ?_|refine gW hk ?_|refine gX hsm ?_|refine gW hz ?_)<;>conv=>whnf
  all_goals first|exact⟨rfl,rfl⟩|(exfalso;omega)|exact absurd ((and3 (by assumption) (by assumption) (by assumption)).symm.trans hst) (by simp)
 have hz:Fr _ _ _ _ _ (.ret [bv (j4v a b),bv ok]) lb:=jjj hS fS ctx _ hc a _ ha sa za b _ hb sb zb (l-1) _ lb (by omega) (by omega) q3
 have hlb:=flz.dn (l-1) _ lb (by omega) q3
 cases ok with
 |true=>
  cases q4;show Fr _ _ _ _ _ (.ret [bv true]) _
  refine j00 Tryz.func89 rfl rfl rfl ?_;repeat'(first|refine gU ?_|refine gW hk ?_|refine gX hsm ?_|refine gW hz ?_)<;>conv=>whnf
  all_goals first|exact⟨rfl,rfl⟩|(exfalso;omega)|exact absurd ((and3 (by assumption) (by assumption) (by assumption)).symm.trans hst) (by simp)
 |false=>
 have q4:(bnd (W a) fun x=>bnd (W b) fun y=>bnd (j3y S ctx a b x y) fun q=>match q with
   |true=>mok true
   |false=>j2C W T S ctx x y) lb=some (r,l'):=q4
 rcases j09 q4 with⟨e,q5,rfl⟩|⟨x,lc,q5,q6⟩
 ·have hwa:Fr _ _ _ _ _ (.pan (j0f e)) l':=(hW a _ ha lb _ l' (by omega) (by omega) q5).2
  show Fr _ _ _ _ _ (.pan (j0f e)) l'
  refine j00 Tryz.func89 rfl rfl rfl ?_;repeat'(first|refine gU ?_|refine gW hk ?_|refine gX hsm ?_|refine gW hz ?_|refine gW hwa ?_|apply gK)<;>conv=>whnf
  all_goals first|exact⟨rfl,rfl⟩|(exfalso;omega)|exact absurd ((and3 (by assumption) (by assumption) (by assumption)).symm.trans hst) (by simp)
 obtain⟨hx2,wx,hwx,hwa⟩:=hW a _ ha lb _ lc (by omega) (by omega) q5
 obtain⟨sx,zx⟩:=hx2 x rfl;have hlc:=(fW a).dn lb _ lc (by omega) q5
 have hwx':=hwx;cases hwx'.c;rcases j09 q6 with⟨e,q7,rfl⟩|⟨y,ld,q7,q8⟩
 ·have hwb:Fr _ _ _ _ _ (.pan (j0f e)) l':=(hW b _ hb lc _ l' (by omega) (by omega) q7).2
  show Fr _ _ _ _ _ (.pan (j0f e)) l'
  refine j00 Tryz.func89 rfl rfl rfl ?_;repeat'(first|refine gU ?_|refine gW hk ?_|refine gX hsm ?_|refine gW hz ?_|refine gW hwa ?_|refine gW hwb ?_|apply gK)<;>conv=>whnf
  all_goals first|exact⟨rfl,rfl⟩|(exfalso;omega)|exact absurd ((and3 (by assumption) (by assumption) (by assumption)).symm.trans hst) (by simp)
 obtain⟨hy2,wy,hwy,hwb⟩:=hW b _ hb lc _ ld (by omega) (by omega) q7
 obtain⟨sy,zy⟩:=hy2 y rfl;have hld:=(fW b).dn lc _ ld (by omega) q7
 have hwy':=hwy;cases hwy'.c;have hs1:=j7J a _ ha x _ hwx;have hs2:=j7J b _ hb y _ hwy;cases hst:j4v a b&&(eqTm a x&&eqTm b y) with
 |true=>
  have e0:j3y S ctx a b x y=mok false:=by
   unfold j3y;rw[hst]
  rw[e0] at q8;have q8:j2C W T S ctx x y ld=some (r,l'):=q8;rw[Bool.and_eq_true,Bool.and_eq_true] at hst;obtain⟨i1,i2,i3⟩:=hst;have hst:false=false:=rfl;refine CrB.via (jdd ht hW hT fW fT hS fS ctx _ hc x _ hwx sx zx y _ hwy sy zy ld r l' (by omega) (by omega) q8) (fun e hp=>?_) (fun q hp=>?_)
  ·refine j00 Tryz.func89 rfl rfl rfl ?_;repeat'(first|refine gU ?_|refine gW hk ?_|refine gX hsm ?_|refine gW hz ?_|refine gW hwa ?_|refine gW hwb ?_|refine gX hs1 ?_|refine gX hs2 ?_|refine gW hp ?_|apply gK)<;>conv=>whnf
   all_goals first|exact⟨rfl,rfl⟩|(exfalso;omega)|exact absurd ((and3 (by assumption) (by assumption) (by assumption)).symm.trans hst) (by simp)
  ·refine j00 Tryz.func89 rfl rfl rfl ?_;repeat'(first|refine gU ?_|refine gW hk ?_|refine gX hsm ?_|refine gW hz ?_|refine gW hwa ?_|refine gW hwb ?_|refine gX hs1 ?_|refine gX hs2 ?_|refine gW hp ?_|apply gK)<;>conv=>whnf
   all_goals first|exact⟨rfl,rfl⟩|(exfalso;omega)|exact absurd ((and3 (by assumption) (by assumption) (by assumption)).symm.trans hst) (by simp)
 |false=>
  have e0:j3y S ctx a b x y=j3S S ctx x y:=by
   unfold j3y;rw[hst]
  rw[e0] at q8;rcases j09 q8 with⟨e,q9,rfl⟩|⟨fo,le,q9,q10⟩
  ·have hfo:Fr _ _ _ _ _ (.pan (j0f e)) l':=jg5 hS fS ctx _ hc x _ hwx sx zx y _ hwy sy zy ld _ l' (by omega) (by omega) q9
   show Fr _ _ _ _ _ (.pan (j0f e)) l'
   refine j00 Tryz.func89 rfl rfl rfl ?_;repeat'(first|refine gU ?_|apply gM<;>intro h|refine gW hk ?_|refine gX hsm ?_|refine gW hz ?_|refine gW hwa ?_|refine gW hwb ?_|refine gX hs1 ?_|refine gX hs2 ?_|refine gW hfo ?_|apply gK)<;>conv=>whnf
   all_goals first|exact⟨rfl,rfl⟩|(exfalso;omega)|exact absurd ((and3 (by assumption) (by assumption) (by assumption)).symm.trans hst) (by simp)
  have hfo:Fr _ _ _ _ _ (.ret [bv fo]) le:=jg5 hS fS ctx _ hc x _ hwx sx zx y _ hwy sy zy ld _ le (by omega) (by omega) q9
  have hle:=(j9f fS ctx x y).dn ld _ le (by omega) q9
  cases fo with
  |true=>
   cases q10;show Fr _ _ _ _ _ (.ret [bv true]) _
   refine j00 Tryz.func89 rfl rfl rfl ?_;repeat'(first|refine gU ?_|apply gM<;>intro h|refine gW hk ?_|refine gX hsm ?_|refine gW hz ?_|refine gW hwa ?_|refine gW hwb ?_|refine gX hs1 ?_|refine gX hs2 ?_|refine gW hfo ?_|apply gK)<;>conv=>whnf
   all_goals first|exact⟨rfl,rfl⟩|(exfalso;omega)|exact absurd ((and3 (by assumption) (by assumption) (by assumption)).symm.trans hst) (by simp)
  |false=>
   have q10:j2C W T S ctx x y le=some (r,l'):=q10;refine CrB.via (jdd ht hW hT fW fT hS fS ctx _ hc x _ hwx sx zx y _ hwy sy zy le r l' (by omega) (by omega) q10) (fun e hp=>?_) (fun q hp=>?_)
   ·refine j00 Tryz.func89 rfl rfl rfl ?_;repeat'(first|refine gU ?_|apply gM<;>intro h|refine gW hk ?_|refine gX hsm ?_|refine gW hz ?_|refine gW hwa ?_|refine gW hwb ?_|refine gX hs1 ?_|refine gX hs2 ?_|refine gW hfo ?_|refine gW hp ?_|apply gK)<;>conv=>whnf
    all_goals first|exact⟨rfl,rfl⟩|(exfalso;omega)|exact absurd ((and3 (by assumption) (by assumption) (by assumption)).symm.trans hst) (by simp)
   ·refine j00 Tryz.func89 rfl rfl rfl ?_;repeat'(first|refine gU ?_|apply gM<;>intro h|refine gW hk ?_|refine gX hsm ?_|refine gW hz ?_|refine gW hwa ?_|refine gW hwb ?_|refine gX hs1 ?_|refine gX hs2 ?_|refine gW hfo ?_|refine gW hp ?_|apply gK)<;>conv=>whnf
    all_goals first|exact⟨rfl,rfl⟩|(exfalso;omega)|exact absurd ((and3 (by assumption) (by assumption) (by assumption)).symm.trans hst) (by simp)
theorem W_ok(E:Nv)(cs:List PV)(hE:NvP E (.cp cs))(tot:Int)(ht:tot≤1048576)(n:Nat):WOk cs tot (j3w E n):=by
 intro t v h l r l' h0 h1 hx;obtain⟨hs,hf⟩:=j7K E cs hE tot ht n t v h l r l' h0 h1 hx;have hnz:=(j0B (E:=E) n t).nz;refine⟨fun x hx=>⟨(hs x hx).1,(hs x hx).2.1⟩,?_⟩
 cases h.c;cases r with
 |error e=>
  have he:¬e=0:=fun e0=>by
   subst e0;exact hnz _ _ hx
  have hm:=jo7 tz (.ag zTm) j5P e he;simp only[errV] at hf;show Fr _ _ _ _ _ (.pan (j0f e)) l'
  refine j00 Tryz.func146 rfl rfl rfl ?_;repeat'(first|refine gU ?_|refine gW hf ?_|refine j1m hm fun _=>?_|apply gK)<;>conv=>whnf
  all_goals exact gJ
 |ok x=>
  have hxw:=(hs x rfl).2.2;have hm:=jo8 x _ hxw;unfold TmW at hxw;simp only[errV] at hf;obtain⟨k9,n9,s9,b9,z9,x9,c9,y9,ys9,he9⟩:=j07 x;rw[he9] at hf hm hxw;refine⟨_,hxw,?_⟩;refine j00 Tryz.func146 rfl rfl rfl ?_;repeat'(first|refine gU ?_|refine gW hf ?_|refine j01 hm fun _=>?_|apply gK)<;>conv=>whnf
  all_goals exact gJ
theorem T_ok(E:Nv)(cs:List PV)(hE:NvP E (.cp cs))(tot:Int)(ht:tot≤1048576):∀n,jcc cs tot (typF E n)
 |0=>fun _ _ _ _ _ _ _ _ _ _ _ _ h=>by cases h
 |n+1=>jqO ht E hE (j3w E n) (typF E n) (W_ok E cs hE tot ht n) (T_ok E cs hE tot ht n) (j0B n) (j1z n)
theorem S_ok(E:Nv)(cs:List PV)(hE:NvP E (.cp cs))(tot:Int)(ht:tot≤1048576):∀n,j5K cs tot (j2h E n)
 |0=>fun _ _ _ _ _ _ _ _ _ _ _ _ _ _ _ _ _ _ h=>by cases h
 |n+1=>joA ht (W_ok E cs hE tot ht n) (T_ok E cs hE tot ht n) (j0B n) (j1z n) (S_ok E cs hE tot ht n) (j3e n)
open Go Go.Am Go.Gw
theorem jhG(t:Tm)(v:PV)(h:TmP t v)(b:Bool)(z:Nat)(xs:List PV)(n:Nat)(hn:xs.length=n):Pf C1 198 [v,.cp [.sl b z xs]] [bv (!j0w t 4 n)]:=by
 have hr:=j0I t v h 4 n;subst hn;cases h.c;refine j00 Tryz.func198 rfl rfl rfl ?_;repeat'(first|refine gU ?_|refine gX hr ?_)<;>conv=>whnf
 all_goals rfl
theorem jfJ{ctx:List Tm}{t:Tm}(h:ctx[i]?=some t):ctxF (ctx.drop i) i=(j0w t 4 i&&ctxF (ctx.drop (i+1)) (i+1:Nat)):=by
 rw[drop_at h,ctxF];rfl
theorem jaK(ctx ts:List Tm)(b:Bool)(z:Nat)(xs:List PV)(hz:z=5∨xs=[])(hxs:TmsP ctx xs)(b2:Bool)(z2:Nat)(ys:List PV)(hz2:z2=5∨ys=[])(hys:TmsP ts ys)(hbd:ctx.length≤1759218604441)(hbd2:ts.length≤1759218604441):Pf C1 142 [.sl b z xs,.sl b2 z2 ys] [bv (j1A ctx ts)]:=by
 have hlen:=hxs.len;have ha:=jfu 198 [.cp [.sl b z xs]] rfl rfl rfl (fun t=>!j0w t 4 ctx.length) ts (fun t _ v hv=>jhG t v hv b z xs ctx.length hlen) b2 z2 ys hz2 hys hbd2
 have he:j1A ctx ts=(decide (ctx.length≤64)&&(ctxF ctx 0 && !(ts.any fun t=>!j0w t 4 ctx.length))):=by
  unfold j1A;congr 2;rw[List.not_any_eq_all_not];simp
 rw[he];refine j00 Tryz.func142 rfl rfl rfl ?_;repeat'(first|refine gU ?_|apply gE<;>intro h)<;>conv=>whnf
 ·refine j2g ?_;rw[decide_eq_false (by omega)]
  rfl
 rw[decide_eq_true (by omega:ctx.length≤64)]
 refine j03 (G:=Nat) (fun i=>[(12,iv i)]) (fun _=>_) (fun i=>i≤ctx.length∧ctxF (ctx.drop i) i=ctxF ctx 0) (fun i=>ctx.length-i) 0 ⟨by omega,rfl⟩ rfl rfl ?_
 rintro i ⟨hi,hall⟩;dsimp only at hi hall⊢;repeat'(first|refine gU ?_|apply gE<;>intro h)<;>conv=>whnf
 ·have hi':i<ctx.length:=by omega
  obtain⟨tc,htc⟩:∃tc,ctx[i]?=some tc:=⟨_,List.getElem?_eq_getElem hi'⟩;obtain⟨v,hv,hl⟩:=hxs.at htc;have hw:=j0I tc v hl 4 i;cases hl.c;rw[jfJ htc] at hall;repeat'(first|refine gU ?_|apply gM<;>intro h|refine VIdx.mk _ hv ?_|refine gZ hz ?_|refine gX hw ?_)<;>conv=>whnf
  ·have hr:j0w tc 4 i=true:=by assumption
   rw[hr,Bool.true_and] at hall;exact VAgain.mk _ rfl _ (j0a rfl rfl rfl) ⟨i+1,⟨hi',hall⟩,by omega,rfl⟩
  ·have hr:j0w tc 4 i=false:=by assumption
   rw[hr,Bool.false_and] at hall;rw[←hall];rfl
 ·have hl:i=ctx.length:=by omega
  subst hl;rw[List.drop_length] at hall;refine j6Z rfl rfl ha rfl ?_;repeat'(refine gU ?_)<;>conv=>whnf
  refine j2g ?_;rw[←hall];simp[ctxF]
theorem j1w(h:Fr f args0 cs tot l r l')(hw:handed C1 f args st=some (args,st))(hp:args.all (pur 8)=false)(hπ:(close st 64 (args.flatMap (ids 8)) []).reverse=[i])(hi:args.all (j0e (fun q=>[i].elem q) 8)=true)
  (hf:fetch (fun q=>place q 0 [i]) (fun q=>[i].elem q) st [i]=some [runB cs tot l]) (ha:args.map (j1n (fun q=>place q 0 [i]) 8)=args0) (hb:jck (fun j=>Nat.blt j 1) r=true) (k:K (j5O (back [i] st.length) r) (st.set i (runB cs tot l'))):VCall C1 f args st K:=by
 refine j0F hw hp hπ hi hf ha (Finds.mono h ?_);rintro _ _ ⟨rfl,rfl⟩;refine j1Y ?_ ?_
 ·simp only[List.length_cons,List.length_nil,Nat.zero_add,hb,Bool.true_and];rfl
 ·have e:(st.set i (runB cs tot l'))++[]=st.set i (runB cs tot l'):=List.append_nil _;rw[←e] at k;exact k
theorem j9E{st0 st2:Sto}{π:List Nat}(h:Finds C1 f args0 st0 fun r' s'=>r'=r∧s'=st2)(hw:handed C1 f args st=some (args,st))(hp:args.all (pur 8)=false)(hπ:(close st 64 (args.flatMap (ids 8)) []).reverse=π)(hi:args.all (j0e (fun q=>π.elem q) 8)=true)
  (hf:fetch (fun q=>place q 0 π) (fun q=>π.elem q) st π=some st0) (ha:args.map (j1n (fun q=>place q 0 π) 8)=args0) (hb:(jck (fun j=>Nat.blt j st2.length) r&&st2.all (soIn fun j=>Nat.blt j st2.length))=true) (k:K (j5O (back π st.length) r) (j2f (back π st.length) π st2 st++(st2.drop π.length).map (j4e (back π st.length)))):VCall C1 f args st K:=by
 refine j0F hw hp hπ hi hf ha (Finds.mono h ?_);rintro _ _ ⟨rfl,rfl⟩;exact j1Y hb k
def stC(cs:List PV)(tot l:Int)(cv v:PV)(o:SO):Sto:=[.box 28 [.ci [.bp 4 0]],.box 22 [cv],.box 25 v.cells,o,runB cs tot l]
theorem jqQ(cs:List PV)(tot l l':Int)(b:Bool)(z:Nat)(xs:List PV)(t:Tm)(v:PV)(h:TmP t v)(x:Tm)(w:PV)(hw:TmP x w)(hf:Fr 91 [.ci [.bp 0 0],.sl b z xs,v] cs tot l (.ret [w]) l'):Finds C1 90 [.bp 0 0,.bp 1 0,.bp 2 0,.bp 3 0] (stC cs tot l (.sl b z xs) v (.box 25 zTm)) fun r st=>r=.ret []∧st=stC cs tot l' (.sl b z xs) v (.box 25 (encT x).cells):=by
 have ha:=j5R x w hw true 0;obtain⟨k9,n9,s9,b9,z9,x9,c9,y9,ys9,he9⟩:=j07 x;rw[he9] at ha⊢;cases h.c;cases hw.c;refine j00 Tryz.func90 rfl rfl rfl ?_;repeat'(first|refine gU ?_|refine j1w (i:=4) hf rfl rfl rfl rfl rfl rfl rfl ?_|refine gX ha ?_)<;>conv=>whnf
 all_goals exact gJ
theorem jqP(cs:List PV)(tot l l' e:Int)(b:Bool)(z:Nat)(xs:List PV)(t:Tm)(v:PV)(h:TmP t v)(hf:Fr 91 [.ci [.bp 0 0],.sl b z xs,v] cs tot l (.pan (j0f e)) l'):Finds C1 90 [.bp 0 0,.bp 1 0,.bp 2 0,.bp 3 0] (stC cs tot l (.sl b z xs) v (.box 25 zTm)) fun r st=>r=.pan (j0f e)∧st=stC cs tot l' (.sl b z xs) v (.box 25 zTm):=by
 cases h.c;refine j00 Tryz.func90 rfl rfl rfl ?_;repeat'(first|refine j1w (i:=4) hf rfl rfl rfl rfl rfl rfl rfl ?_)<;>conv=>whnf
 all_goals exact gJ
end Go.Proofs.YtbnodhcijeaceaaGreatDoor

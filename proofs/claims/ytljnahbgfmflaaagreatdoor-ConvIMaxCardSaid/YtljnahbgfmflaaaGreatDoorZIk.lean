/-
  Two terms in weak head normal form that are one by their forms (package conv). No statement of the seat.
-/
import Derived.Test.YtljnahbgfmflaaaGreatDoorZIh
set_option linter.unusedVariables false
set_option maxHeartbeats 4000000
set_option maxRecDepth 100000
set_option linter.unusedSimpArgs false
set_option linter.unnecessarySimpa false
namespace Go.Proofs.YtljnahbgfmflaaaGreatDoor
open Go Go.Am Go.Gw
theorem CrB.via {f f':FuncId} {args args' cs:List PV} {tot l la l':Int} {r:Except Int Bool} (h:CrB f args cs tot l r l') (h1:∀ e,Fr f args cs tot l (.pan (j0c e)) l'→Fr f' args' cs tot la (.pan (j0c e)) l') (h2:∀ q,Fr f args cs tot l (.ret [bv q]) l'→Fr f' args' cs tot la (.ret [bv q]) l'):CrB f' args' cs tot la r l':=by
 cases r with
 |error e=>exact h1 e h
 |ok q=>exact h2 q h
theorem jcu {cs:List PV} {tot:Int} {S:List Tm→Tm→Tm→M Bool} (hS:j4Q cs tot S) (fS:∀ c a b,Fine (S c a b)) (ctx:List Tm) (cv:PV) (hc:CtxP ctx cv) (a:Tm) (av:PV) (ha:TmP a av) (sa:shT a=true) (za:sizT a ≤ 2000) (b:Tm) (wv:PV) (hb:TmP b wv) (sb:shT b=true) (zb:sizT b ≤ 2000) (l:Int) (r:Except Int Bool) (l':Int) (h0:0 ≤ l) (h1:l ≤ tot) (hk:a.kind=2∧b.kind=2) (hx:j5Z S ctx a b l=some (r,l')) :
  CrB 103 [.ci [.bp 0 0],cv,av,wv] cs tot l r l':=by
 unfold j5Z at hx
 rw [if_pos hk] at hx
 cases hx
 obtain ⟨b0,z0,xs0,rfl,-⟩:=hc
 obtain ⟨k1,n1,s1,l1,t1,b1,z1,x1,c1,y1,ys1,rfl,rfl,hz1,hx1,-⟩:=ha.open
 obtain ⟨k2,n2,s2,l2,t2,b2,z2,x2,c2,y2,ys2,rfl,rfl,hz2,hx2,-⟩:=hb.open
 obtain ⟨a1,a2,a3,a4,a5,a6⟩:=j0y sa
 obtain ⟨d1,d2,d3,d4,d5,d6⟩:=j0y sb
 simp only [Tm.kind] at hk
 obtain ⟨rfl,rfl⟩:=hk
 have e:j0M 2=1:=rfl
 have hl1:l1.length=1:=by
  have:=a4 (by omega)
  omega
 have hl2:l2.length=1:=by
  have:=d4 (by omega)
  omega
 obtain ⟨v1,hv1,hl⟩:=hx1.at (show l1[0]? = some (l1.getD 0 (.mk 0 0 [])) by rw [List.getD_eq_getElem?_getD,List.getElem?_eq_getElem (by omega)]; rfl)
 obtain ⟨v2,hv2,hm⟩:=hx2.at (show l2[0]? = some (l2.getD 0 (.mk 0 0 [])) by rw [List.getD_eq_getElem?_getD,List.getElem?_eq_getElem (by omega)]; rfl)
 have hsm:=j9H _ v1 hl _ v2 hm
 have e1:(Tm.mk 2 n1 s1 l1 t1).lv=l1.getD 0 (.mk 0 0 []):=rfl
 have e2:(Tm.mk 2 n2 s2 l2 t2).lv=l2.getD 0 (.mk 0 0 []):=rfl
 rw [e1,e2]
 obtain ⟨k3,n3,l3,b3,z3,x3,-,rfl,-⟩:=hl.open
 obtain ⟨k4,n4,l4,b4,z4,x4,-,rfl,-⟩:=hm.open
 show Fr _ _ _ _ _ (.ret [bv (j4S _ _)]) _
 refine j00 Tryz.func103 rfl rfl rfl ?_
 repeat' ((conv=>whnf);first|apply gT|apply gO|apply gP|apply gQ|refine j04 rfl rfl ?_|refine VIdx.mk _ hv1 ?_|refine VIdx.mk _ hv2 ?_|refine VOk.mk (j07 rfl hz1) ?_|refine VOk.mk (j07 rfl hz2) ?_|refine j05 hsm (fun _=>?_)|apply gK)
 all_goals (try (conv=>whnf))
 all_goals first|exact ⟨rfl,rfl⟩|(exfalso; omega)
theorem jfY {cs:List PV} {tot:Int} {S:List Tm→Tm→Tm→M Bool} (hS:j4Q cs tot S) (fS:∀ c a b,Fine (S c a b)) (ctx:List Tm) (cv:PV) (hc:CtxP ctx cv) (a:Tm) (av:PV) (ha:TmP a av) (sa:shT a=true) (za:sizT a ≤ 2000) (b:Tm) (wv:PV) (hb:TmP b wv) (sb:shT b=true) (zb:sizT b ≤ 2000) (l:Int) (r:Except Int Bool) (l':Int) (h0:0 ≤ l) (h1:l ≤ tot) (hk:a.kind=b.kind∧(a.kind=6∨a.kind=5)) (hx:j5Z S ctx a b l=some (r,l')) :
  CrB 103 [.ci [.bp 0 0],cv,av,wv] cs tot l r l':=by
 unfold j5Z at hx
 rw [if_neg (by omega),if_pos hk] at hx
 have hc':=hc
 obtain ⟨b0,z0,xs0,rfl,-⟩:=hc'
 obtain ⟨k1,n1,s1,l1,t1,b1,z1,x1,c1,y1,ys1,rfl,rfl,-,-,-,-,hy1,hys1,-⟩:=ha.open
 obtain ⟨k2,n2,s2,l2,t2,b2,z2,x2,c2,y2,ys2,rfl,rfl,-,-,-,-,hy2,hys2,-⟩:=hb.open
 obtain ⟨a1,a2,a3,a4,a5,a6⟩:=j0y sa
 obtain ⟨d1,d2,d3,d4,d5,d6⟩:=j0y sb
 simp only [Tm.kind] at hk
 obtain ⟨rfl,hk⟩:=hk
 have hsh:j1b k1=2:=by
  rcases hk with rfl|rfl <;> rfl
 have hk2:¬ k1=2:=by omega
 have hkk:k1=k1:=rfl
 obtain ⟨v0,hv0,h0'⟩:=hys1.at (getD_at (ts:=t1) (i:=0) (by omega))
 obtain ⟨v1,hv1,h1'⟩:=hys1.at (getD_at (ts:=t1) (i:=1) (by omega))
 obtain ⟨w0,hw0,g0'⟩:=hys2.at (getD_at (ts:=t2) (i:=0) (by omega))
 obtain ⟨w1,hw1,g1'⟩:=hys2.at (getD_at (ts:=t2) (i:=1) (by omega))
 have m0:t1.getD 0 tz ∈ t1:=List.mem_of_getElem? (getD_at (by omega))
 have m1:t1.getD 1 tz ∈ t1:=List.mem_of_getElem? (getD_at (by omega))
 have q0:t2.getD 0 tz ∈ t2:=List.mem_of_getElem? (getD_at (by omega))
 have q1:t2.getD 1 tz ∈ t2:=List.mem_of_getElem? (getD_at (by omega))
 have u0:=j9c (k:=k1) (n:=n1) (s:=s1) (ls:=l1) (ts:=t1) (i:=0) (by omega)
 have u1:=j9c (k:=k1) (n:=n1) (s:=s1) (ls:=l1) (ts:=t1) (i:=1) (by omega)
 have u2:=j9c (k:=k1) (n:=n2) (s:=s2) (ls:=l2) (ts:=t2) (i:=0) (by omega)
 have u3:=j9c (k:=k1) (n:=n2) (s:=s2) (ls:=l2) (ts:=t2) (i:=1) (by omega)
 have e0:(Tm.mk k1 n1 s1 l1 t1).arg 0=t1.getD 0 tz:=rfl
 have e1:(Tm.mk k1 n1 s1 l1 t1).arg 1=t1.getD 1 tz:=rfl
 have e2:(Tm.mk k1 n2 s2 l2 t2).arg 0=t2.getD 0 tz:=rfl
 have e3:(Tm.mk k1 n2 s2 l2 t2).arg 1=t2.getD 1 tz:=rfl
 rw [e0,e1,e2,e3] at hx
 have hsa:=fun l r l' h0 h1=>hS ctx _ hc _ _ h0' (a5 _ m0) (by omega) _ _ g0' (d5 _ q0) (by omega) l r l' h0 h1
 have hsb:=fun c wc hc l r l' h0 h1=>hS c wc hc _ _ h1' (a5 _ m1) (by omega) _ _ g1' (d5 _ q1) (by omega) l r l' h0 h1
 obtain ⟨k3,n3,s3,l3,t3,b3,z3,x3,c3,y3,ys3,-,rfl,-⟩:=h0'.open
 obtain ⟨k4,n4,s4,l4,t4,b4,z4,x4,c4,y4,ys4,-,rfl,-⟩:=h1'.open
 obtain ⟨k5,n5,s5,l5,t5,b5,z5,x5,c5,y5,ys5,-,rfl,-⟩:=g0'.open
 obtain ⟨k6,n6,s6,l6,t6,b6,z6,x6,c6,y6,ys6,-,rfl,-⟩:=g1'.open
 rcases j0k hx with ⟨e,p1,rfl⟩|⟨q,la,p1,p2⟩
 ·have hf:Fr _ _ _ _ _ (.pan (j0c e)) l':=hsa l _ l' h0 h1 p1
  show Fr _ _ _ _ _ (.pan (j0c e)) l'
  refine j00 Tryz.func103 rfl rfl rfl ?_
  repeat' ((conv=>whnf);first|apply gT|apply gF|refine gA ?_|refine gB ?_|apply gE<;>intro h|apply gO|apply gQ|refine VIdx.mk _ hv0 ?_|refine VIdx.mk _ hw0 ?_|refine VOk.mk (j07 rfl hy1) ?_|refine VOk.mk (j07 rfl hy2) ?_|refine j02 hf rfl rfl rfl rfl rfl rfl rfl ?_|apply gK)
  all_goals (try (conv=>whnf))
  all_goals first|exact ⟨rfl,rfl⟩|(exfalso; omega)
 have hf:Fr _ _ _ _ _ (.ret [bv q]) la:=hsa l _ la h0 h1 p1
 have hd:=(fS ctx _ _).dn l _ la h0 p1
 cases q with
 |false =>
  cases p2
  show Fr _ _ _ _ _ (.ret [bv false]) _
  refine j00 Tryz.func103 rfl rfl rfl ?_
  repeat' ((conv=>whnf);first|apply gT|apply gF|refine gA ?_|refine gB ?_|apply gE<;>intro h|apply gO|apply gQ|refine j04 rfl rfl ?_|refine VIdx.mk _ hv0 ?_|refine VIdx.mk _ hw0 ?_|refine VOk.mk (j07 rfl hy1) ?_|refine VOk.mk (j07 rfl hy2) ?_|refine j02 hf rfl rfl rfl rfl rfl rfl rfl ?_|apply gK)
  all_goals (try (conv=>whnf))
  all_goals first|exact ⟨rfl,rfl⟩|(exfalso; omega)
 |true =>
  have p2:(bnd (jay ctx (t1.getD 0 tz)) fun c2=>S c2 (t1.getD 1 tz) (t2.getD 1 tz)) la=some (r,l'):=p2
  rcases j0k p2 with ⟨e,p3,rfl⟩|⟨c2',lb,p3,p4⟩
  ·obtain ⟨rfl,rfl,hw⟩:=j2G ctx _ hc _ _ h0' (a5 _ m0) p3
   show Fr _ _ _ _ _ (.pan (j0c 15)) l'
   refine j00 Tryz.func103 rfl rfl rfl ?_
   repeat' ((conv=>whnf);first|apply gT|apply gF|refine gA ?_|refine gB ?_|apply gE<;>intro h|apply gO|apply gQ|refine VIdx.mk _ hv0 ?_|refine VIdx.mk _ hw0 ?_|refine VIdx.mk _ hv1 ?_|refine VIdx.mk _ hw1 ?_|refine VOk.mk (j07 rfl hy1) ?_|refine VOk.mk (j07 rfl hy2) ?_|refine j02 hf rfl rfl rfl rfl rfl rfl rfl ?_|refine j0Y hw (fun _=>?_)|apply gK)
   all_goals (try (conv=>whnf))
   all_goals first|exact ⟨rfl,rfl⟩|(exfalso; omega)
  obtain ⟨rfl,rfl,wc,hwc,hw⟩:=j2G ctx _ hc _ _ h0' (a5 _ m0) p3
  have hwc':=hwc
  obtain ⟨b7,z7,x7,rfl,-⟩:=hwc'
  have hg:=hsb _ _ hwc lb r l' (by omega) (by omega) p4
  cases r with
  |error e =>
   have hg:Fr _ _ _ _ _ (.pan (j0c e)) l':=hg
   show Fr _ _ _ _ _ (.pan (j0c e)) l'
   refine j00 Tryz.func103 rfl rfl rfl ?_
   repeat' ((conv=>whnf);first|apply gT|apply gF|refine gA ?_|refine gB ?_|apply gE<;>intro h|apply gO|apply gP|apply gQ|refine VIdx.mk _ hv0 ?_|refine VIdx.mk _ hw0 ?_|refine VIdx.mk _ hv1 ?_|refine VIdx.mk _ hw1 ?_|refine VOk.mk (j07 rfl hy1) ?_|refine VOk.mk (j07 rfl hy2) ?_|refine j02 hf rfl rfl rfl rfl rfl rfl rfl ?_|refine j05 hw (fun _=>?_)|refine j02 hg rfl rfl rfl rfl rfl rfl rfl ?_|apply gK)
   all_goals (try (conv=>whnf))
   all_goals first|exact ⟨rfl,rfl⟩|(exfalso; omega)
  |ok q =>
   have hg:Fr _ _ _ _ _ (.ret [bv q]) l':=hg
   show Fr _ _ _ _ _ (.ret [bv q]) l'
   refine j00 Tryz.func103 rfl rfl rfl ?_
   repeat' ((conv=>whnf);first|apply gT|apply gF|refine gA ?_|refine gB ?_|apply gE<;>intro h|apply gO|apply gP|apply gQ|refine j04 rfl rfl ?_|refine VIdx.mk _ hv0 ?_|refine VIdx.mk _ hw0 ?_|refine VIdx.mk _ hv1 ?_|refine VIdx.mk _ hw1 ?_|refine VOk.mk (j07 rfl hy1) ?_|refine VOk.mk (j07 rfl hy2) ?_|refine j02 hf rfl rfl rfl rfl rfl rfl rfl ?_|refine j05 hw (fun _=>?_)|refine j02 hg rfl rfl rfl rfl rfl rfl rfl ?_|apply gK)
   all_goals (try (conv=>whnf))
   all_goals first|exact ⟨rfl,rfl⟩|(exfalso; omega)
theorem je0 {cs:List PV} {tot:Int} {S:List Tm→Tm→Tm→M Bool} (hS:j4Q cs tot S) (fS:∀ c a b,Fine (S c a b)) (ctx:List Tm) (cv:PV) (hc:CtxP ctx cv) (a:Tm) (av:PV) (ha:TmP a av) (sa:shT a=true) (za:sizT a ≤ 2000) (b:Tm) (wv:PV) (hb:TmP b wv) (sb:shT b=true) (zb:sizT b ≤ 2000) (l:Int) (r:Except Int Bool) (l':Int) (h0:0 ≤ l) (h1:l ≤ tot) (hx:j5Z S ctx a b l=some (r,l')) :
  CrB 103 [.ci [.bp 0 0],cv,av,wv] cs tot l r l':=by
 by_cases c1:a.kind=2∧b.kind=2
 ·exact jcu hS fS ctx cv hc a av ha sa za b wv hb sb zb l r l' h0 h1 c1 hx
 by_cases c2:a.kind=b.kind∧(a.kind=6∨a.kind=5)
 ·exact jfY hS fS ctx cv hc a av ha sa za b wv hb sb zb l r l' h0 h1 c2 hx
 have he1:=fun hk hx=>jkR hS fS ctx cv hc a av ha sa za b wv hb sb zb l r l' h0 h1 hk hx
 have he2:=fun hk hx=>jkR hS fS ctx cv hc b wv hb sb zb a av ha sa za l r l' h0 h1 hk hx
 have hsp:=fun hx=>jbu hS fS ctx cv hc a av ha sa za b wv hb sb zb l r l' h0 h1 hx
 unfold j5Z at hx
 rw [if_neg c1,if_neg c2] at hx
 obtain ⟨b0,z0,xs0,rfl,-⟩:=hc
 obtain ⟨k1,n1,s1,l1,t1,b1,z1,x1,c1',y1,ys1,rfl,rfl,-⟩:=ha.open
 obtain ⟨k2,n2,s2,l2,t2,b2,z2,x2,c2',y2,ys2,rfl,rfl,-⟩:=hb.open
 have k1e:(Tm.mk k1 n1 s1 l1 t1).kind=k1:=rfl
 have k2e:(Tm.mk k2 n2 s2 l2 t2).kind=k2:=rfl
 rw [k1e] at c1 c2 he1 hx
 rw [k2e] at c1 c2 he2 hx
 by_cases c3:k1=5
 ·rw [if_pos c3] at hx
  refine CrB.via (he1 c3 hx) (fun e hf=>?_) (fun q hf=>?_)
  ·show Fr _ _ _ _ _ (.pan (j0c e)) l'
   refine j00 Tryz.func103 rfl rfl rfl ?_
   repeat' ((conv=>whnf);first|apply gT|apply gF|refine gA ?_|refine gB ?_|apply gE<;>intro h|apply gQ|refine j02 hf rfl rfl rfl rfl rfl rfl rfl ?_)
   all_goals (try (conv=>whnf))
   all_goals first|exact ⟨rfl,rfl⟩|(exfalso; omega)
  ·show Fr _ _ _ _ _ (.ret [bv q]) l'
   refine j00 Tryz.func103 rfl rfl rfl ?_
   repeat' ((conv=>whnf);first|apply gT|apply gF|refine gA ?_|refine gB ?_|apply gE<;>intro h|apply gQ|refine j04 rfl rfl ?_|refine j02 hf rfl rfl rfl rfl rfl rfl rfl ?_)
   all_goals (try (conv=>whnf))
   all_goals first|exact ⟨rfl,rfl⟩|(exfalso; omega)
 rw [if_neg c3] at hx
 by_cases c4:k2=5
 ·rw [if_pos c4] at hx
  refine CrB.via (he2 c4 hx) (fun e hf=>?_) (fun q hf=>?_)
  ·show Fr _ _ _ _ _ (.pan (j0c e)) l'
   refine j00 Tryz.func103 rfl rfl rfl ?_
   repeat' ((conv=>whnf);first|apply gT|apply gF|refine gA ?_|refine gB ?_|apply gE<;>intro h|apply gQ|refine j02 hf rfl rfl rfl rfl rfl rfl rfl ?_)
   all_goals (try (conv=>whnf))
   all_goals first|exact ⟨rfl,rfl⟩|(exfalso; omega)
  ·show Fr _ _ _ _ _ (.ret [bv q]) l'
   refine j00 Tryz.func103 rfl rfl rfl ?_
   repeat' ((conv=>whnf);first|apply gT|apply gF|refine gA ?_|refine gB ?_|apply gE<;>intro h|apply gQ|refine j04 rfl rfl ?_|refine j02 hf rfl rfl rfl rfl rfl rfl rfl ?_)
   all_goals (try (conv=>whnf))
   all_goals first|exact ⟨rfl,rfl⟩|(exfalso; omega)
 rw [if_neg c4] at hx
 refine CrB.via (hsp hx) (fun e hf=>?_) (fun q hf=>?_)
 ·show Fr _ _ _ _ _ (.pan (j0c e)) l'
  refine j00 Tryz.func103 rfl rfl rfl ?_
  repeat' ((conv=>whnf);first|apply gT|apply gF|refine gA ?_|refine gB ?_|apply gE<;>intro h|apply gQ|refine j02 hf rfl rfl rfl rfl rfl rfl rfl ?_)
  all_goals (try (conv=>whnf))
  all_goals first|exact ⟨rfl,rfl⟩|(exfalso; omega)
 ·show Fr _ _ _ _ _ (.ret [bv q]) l'
  refine j00 Tryz.func103 rfl rfl rfl ?_
  repeat' ((conv=>whnf);first|apply gT|apply gF|refine gA ?_|refine gB ?_|apply gE<;>intro h|apply gQ|refine j04 rfl rfl ?_|refine j02 hf rfl rfl rfl rfl rfl rfl rfl ?_)
  all_goals (try (conv=>whnf))
  all_goals first|exact ⟨rfl,rfl⟩|(exfalso; omega)
open Go Go.Am Go.Gw
theorem j0I (e:Int):Pf C1 96 [j0c e] [iv e]:=by
 refine j00 Tryz.func96 rfl rfl rfl ?_
 repeat' ((conv=>whnf);first|apply gF|apply gO|refine j03 rfl ?_|refine VRes.mk _ jo9 ?_)
 all_goals (try (conv=>whnf))
 all_goals rfl
theorem j2v:Pf C1 96 [.sc .nilIface] [iv 0]:=by
 refine j00 Tryz.func96 rfl rfl rfl ?_
 repeat' ((conv=>whnf);first|apply gT|refine j03 rfl ?_|refine VRes.mk _ jo2 ?_)
 all_goals (try (conv=>whnf))
 all_goals rfl
def CrP (args cs:List PV) (tot l:Int) (r:Except Int (Option Tm)) (l':Int):Prop:=match r with
 | .ok (some x)=>shT x=true∧sizT x ≤ 2000∧∃ w,TmP x w∧Fr 73 args cs tot l (.ret [w,bv true]) l'
 | .ok none=>∃ k n s b z xs c y ys,Fr 73 args cs tot l (.ret [.ag [iv k,iv n,sv s,.sl b z xs,.sl c y ys],bv false]) l'
 | .error e=>Fr 73 args cs tot l (.pan (j0c e)) l'
theorem jcv {cs:List PV} {tot:Int} (ht:tot ≤ 1048576) {W:Tm→M Tm} {T:List Tm→Tm→M Tm} (hW:WOk cs tot W) (hT:jat cs tot T) (fW:∀ t,Fine (W t)) (fT:∀ c t,Fine (T c t)) (ctx:List Tm) (cv:PV) (hc:CtxP ctx cv) (t:Tm) (v:PV) (h:TmP t v) (hs:shT t=true) (l:Int) (r:Except Int (Option Tm)) (l':Int) (h0:0 ≤ l) (h1:l ≤ tot) (hx:jez W T ctx t l=some (r,l')):CrP [.ci [.bp 0 0],cv,v] cs tot l r l':=by
 have hSo:=j8Q ht hW hT fW fT
 have hc':=hc
 obtain ⟨b,z,xs,rfl,-⟩:=hc'
 have h':=h
 obtain ⟨k1,n1,s1,l1,t1,b1,z1,x1,c1,y1,ys1,-,rfl,-⟩:=h'.open
 unfold jez jo3 at hx
 have herr:∀ e,(bnd j4W fun _=>bnd (T ctx t) fun ty=>bnd (sortB W T ctx ty) fun s=>mok (match jd2 s with
   |true=>some ty
   |false=>none)) l=some (.error e,l')→∀ (hq:(e=22∨e=15)∨¬ (e=22∨e=15)),CrP [.ci [.bp 0 0],.sl b z xs,.ag [iv k1,iv n1,sv s1,.sl b1 z1 x1,.sl c1 y1 ys1]] cs tot l (match decide (e=22) || decide (e=15) with
   |true=>.error e
   |false=>.ok none) l':=by
  intro e hy hq
  have hne:¬ e=0:=fun e0=>by
   subst e0
   exact (j0g j3U fun _=>j0g (fT ctx t) fun ty=>j0g (j4j fW fT ctx ty) fun s=>j0w _).nz _ _ hy
  rcases j0k hy with ⟨e,q1,e1⟩|⟨u0,la,q1,q2⟩
  ·cases e1
   rcases j1k q1 with ⟨a1,a2,a3⟩|⟨a1,a2,a3⟩
   ·cases a3
   ·cases a3
    subst a2
    have hk:=j8D cs tot l' a1
    show Fr _ _ _ _ _ (.pan (j0c 22)) l'
    refine j0r Tryz.func73 rfl rfl rfl ?_
    repeat' ((conv=>whnf);first|refine j02 hk rfl rfl rfl rfl rfl rfl rfl ?_)
    all_goals (try (conv=>whnf))
    refine ⟨_,_,_,_,_,_,rfl,rfl,rfl,rfl,?_⟩
    repeat' ((conv=>whnf);first|apply gT|refine j01 (j0I _) rfl rfl ?_)
    all_goals (try (conv=>whnf))
    all_goals first|exact ⟨rfl,rfl⟩|(exfalso; omega)
  rcases j1k q1 with ⟨a1,a2,a3⟩|⟨a1,a2,a3⟩
  rotate_left
  ·cases a3
  subst a2
  have hk:=j6U cs tot l a1 h1 ht
  rcases j0k q2 with ⟨e,q3,e1⟩|⟨y,lb,q3,q4⟩
  ·cases e1
   obtain ⟨-,hf⟩:=hT ctx _ hc t _ h hs (l - 1) _ l' (by omega) (by omega) q3
   have hf:Fr _ _ _ _ _ (.pan (j0c e)) l':=hf
   rcases hq with hq|hq
   ·have e2:(decide (e=22) || decide (e=15))=true:=by simpa using hq
    rw [e2]
    show Fr _ _ _ _ _ (.pan (j0c e)) l'
    refine j0r Tryz.func73 rfl rfl rfl ?_
    repeat' ((conv=>whnf);first|refine j02 hk rfl rfl rfl rfl rfl rfl rfl ?_|refine j02 hf rfl rfl rfl rfl rfl rfl rfl ?_)
    all_goals (try (conv=>whnf))
    refine ⟨_,_,_,_,_,_,rfl,rfl,rfl,rfl,?_⟩
    repeat' ((conv=>whnf);first|apply gT|apply gN|refine gA ?_|refine gB ?_|apply gE<;>intro h|apply gO|refine j04 rfl rfl ?_|refine j01 (j0I _) rfl rfl ?_)
    all_goals (try (conv=>whnf))
    all_goals first|exact ⟨rfl,rfl⟩|(exfalso; omega)
   ·have e2:(decide (e=22) || decide (e=15))=false:=by simpa using hq
    rw [e2]
    refine ⟨0,0,[],true,0,[],true,0,[],?_⟩
    refine j0r Tryz.func73 rfl rfl rfl ?_
    repeat' ((conv=>whnf);first|refine j02 hk rfl rfl rfl rfl rfl rfl rfl ?_|refine j02 hf rfl rfl rfl rfl rfl rfl rfl ?_)
    all_goals (try (conv=>whnf))
    refine ⟨_,_,_,_,_,_,rfl,rfl,rfl,rfl,?_⟩
    repeat' ((conv=>whnf);first|apply gT|apply gN|refine gA ?_|refine gB ?_|apply gE<;>intro h|apply gO|refine j04 rfl rfl ?_|refine j01 (j0I _) rfl rfl ?_)
    all_goals (try (conv=>whnf))
    all_goals first|exact ⟨rfl,rfl⟩|(exfalso; omega)
  obtain ⟨hy',wy,hwy,hf⟩:=hT ctx _ hc t _ h hs (l - 1) _ lb (by omega) (by omega) q3
  obtain ⟨hys,hyz⟩:=hy' y rfl
  have hd:=(fT ctx t).dn (l - 1) _ lb (by omega) q3
  rcases j0k q4 with ⟨e,q5,e1⟩|⟨s,lc,q5,q6⟩
  ·cases e1
   have hg:Fr _ _ _ _ _ (.pan (j0c e)) l':=hSo ctx _ hc y _ hwy hys lb _ l' (by omega) (by omega) q5
   obtain ⟨k2,n2,s2,l2,t2,b2,z2,x2,c2,y2,ys2,-,rfl,-⟩:=hwy.open
   rcases hq with hq|hq
   ·have e2:(decide (e=22) || decide (e=15))=true:=by simpa using hq
    rw [e2]
    show Fr _ _ _ _ _ (.pan (j0c e)) l'
    refine j0r Tryz.func73 rfl rfl rfl ?_
    repeat' ((conv=>whnf);first|apply gO|refine j02 hk rfl rfl rfl rfl rfl rfl rfl ?_|refine j02 hf rfl rfl rfl rfl rfl rfl rfl ?_|refine j02 hg rfl rfl rfl rfl rfl rfl rfl ?_|apply gK)
    all_goals (try (conv=>whnf))
    refine ⟨_,_,_,_,_,_,rfl,rfl,rfl,rfl,?_⟩
    repeat' ((conv=>whnf);first|apply gT|apply gN|refine gA ?_|refine gB ?_|apply gE<;>intro h|apply gO|refine j04 rfl rfl ?_|refine j01 (j0I _) rfl rfl ?_)
    all_goals (try (conv=>whnf))
    all_goals first|exact ⟨rfl,rfl⟩|(exfalso; omega)
   ·have e2:(decide (e=22) || decide (e=15))=false:=by simpa using hq
    rw [e2]
    refine ⟨0,0,[],true,0,[],true,0,[],?_⟩
    refine j0r Tryz.func73 rfl rfl rfl ?_
    repeat' ((conv=>whnf);first|apply gO|refine j02 hk rfl rfl rfl rfl rfl rfl rfl ?_|refine j02 hf rfl rfl rfl rfl rfl rfl rfl ?_|refine j02 hg rfl rfl rfl rfl rfl rfl rfl ?_|apply gK)
    all_goals (try (conv=>whnf))
    refine ⟨_,_,_,_,_,_,rfl,rfl,rfl,rfl,?_⟩
    repeat' ((conv=>whnf);first|apply gT|apply gN|refine gA ?_|refine gB ?_|apply gE<;>intro h|apply gO|refine j04 rfl rfl ?_|refine j01 (j0I _) rfl rfl ?_)
    all_goals (try (conv=>whnf))
    all_goals first|exact ⟨rfl,rfl⟩|(exfalso; omega)
  ·cases q6
 rcases j3Y hx with ⟨o,hy,rfl⟩|⟨e,he,hy,rfl⟩|⟨e,he,hy,rfl⟩
 ·rcases j0k hy with ⟨e,q1,e1⟩|⟨u0,la,q1,q2⟩
  ·cases e1
  rcases j1k q1 with ⟨a1,a2,a3⟩|⟨a1,a2,a3⟩
  rotate_left
  ·cases a3
  subst a2
  have hk:=j6U cs tot l a1 h1 ht
  rcases j0k q2 with ⟨e,q3,e1⟩|⟨y,lb,q3,q4⟩
  ·cases e1
  obtain ⟨hy',wy,hwy,hf⟩:=hT ctx _ hc t _ h hs (l - 1) _ lb (by omega) (by omega) q3
  obtain ⟨hys,hyz⟩:=hy' y rfl
  have hd:=(fT ctx t).dn (l - 1) _ lb (by omega) q3
  rcases j0k q4 with ⟨e,q5,e1⟩|⟨s,lc,q5,q6⟩
  ·cases e1
  obtain ⟨wl,hwl,hg⟩:=hSo ctx _ hc y _ hwy hys lb _ lc (by omega) (by omega) q5
  have hz:=jhE s wl hwl
  obtain ⟨k2,n2,s2,l2,t2,b2,z2,x2,c2,y2,ys2,-,rfl,-⟩:=hwy.open
  obtain ⟨k3,n3,l3,b3,z3,x3,-,rfl,-⟩:=hwl.open
  cases hzq:jd2 s with
  |true =>
   rw [hzq] at q6 hz
   cases q6
   refine ⟨hys,hyz,_,hwy,?_⟩
   refine j0r Tryz.func73 rfl rfl rfl ?_
   repeat' ((conv=>whnf);first|apply gO|apply gP|refine j02 hk rfl rfl rfl rfl rfl rfl rfl ?_|refine j02 hf rfl rfl rfl rfl rfl rfl rfl ?_|refine j02 hg rfl rfl rfl rfl rfl rfl rfl ?_|refine j05 hz (fun _=>?_)|apply gK)
   all_goals (try (conv=>whnf))
   refine ⟨_,_,_,_,_,_,rfl,rfl,rfl,rfl,?_⟩
   repeat' ((conv=>whnf);first|apply gF|refine j04 rfl rfl ?_|refine j01 j2v rfl rfl ?_)
   all_goals (try (conv=>whnf))
   all_goals first|exact ⟨rfl,rfl⟩|(exfalso; omega)
  |false =>
   rw [hzq] at q6 hz
   cases q6
   refine ⟨k2,n2,s2,b2,z2,x2,c2,y2,ys2,?_⟩
   ·refine j0r Tryz.func73 rfl rfl rfl ?_
    repeat' ((conv=>whnf);first|apply gO|apply gP|refine j02 hk rfl rfl rfl rfl rfl rfl rfl ?_|refine j02 hf rfl rfl rfl rfl rfl rfl rfl ?_|refine j02 hg rfl rfl rfl rfl rfl rfl rfl ?_|refine j05 hz (fun _=>?_)|apply gK)
    all_goals (try (conv=>whnf))
    refine ⟨_,_,_,_,_,_,rfl,rfl,rfl,rfl,?_⟩
    repeat' ((conv=>whnf);first|apply gF|refine j04 rfl rfl ?_|refine j01 j2v rfl rfl ?_)
    all_goals (try (conv=>whnf))
    all_goals first|exact ⟨rfl,rfl⟩|(exfalso; omega)
 ·have:=herr e hy (.inl he)
  have e2:(decide (e=22) || decide (e=15))=true:=by simpa using he
  rw [e2] at this
  exact this
 ·have:=herr e hy (.inr he)
  have e2:(decide (e=22) || decide (e=15))=false:=by simpa using he
  rw [e2] at this
  exact this
open Go Go.Am Go.Gw
theorem jaM {cs:List PV} {tot:Int} (ht:tot ≤ 1048576) {W:Tm→M Tm} {T:List Tm→Tm→M Tm} (hW:WOk cs tot W) (hT:jat cs tot T) (fW:∀ t,Fine (W t)) (fT:∀ c t,Fine (T c t)) {S:List Tm→Tm→Tm→M Bool} (hS:j4Q cs tot S) (fS:∀ c a b,Fine (S c a b)) (ctx:List Tm) (cv:PV) (hc:CtxP ctx cv) (a:Tm) (av:PV) (ha:TmP a av) (sa:shT a=true) (za:sizT a ≤ 2000) (b:Tm) (wv:PV) (hb:TmP b wv) (sb:shT b=true) (zb:sizT b ≤ 2000) (l:Int) (r:Except Int Bool) (l':Int) (h0:0 ≤ l) (h1:l ≤ tot) (hx:j4Y W T S ctx a b l=some (r,l')) :
  CrB 104 [.ci [.bp 0 0],cv,av,wv] cs tot l r l':=by
 unfold j4Y at hx
 have fP:=j6I fW fT
 have hpa:=fun r l' hx=>jcv ht hW hT fW fT ctx cv hc a av ha sa l r l' h0 h1 hx
 have hpb:=fun l h0 h1 r l' hx=>jcv ht hW hT fW fT ctx cv hc b wv hb sb l r l' h0 h1 hx
 have hsm:=fun p pv hp sp zp q qv hq sq zq l h0 h1 hx=>hS ctx cv hc p pv hp sp zp q qv hq sq zq l r l' h0 h1 hx
 obtain ⟨b0,z0,xs0,rfl,-⟩:=hc
 obtain ⟨k1,n1,s1,l1,t1,b1,z1,x1,c1,y1,ys1,-,rfl,-⟩:=ha.open
 obtain ⟨k2,n2,s2,l2,t2,b2,z2,x2,c2,y2,ys2,-,rfl,-⟩:=hb.open
 rcases j0k hx with ⟨e,p1,rfl⟩|⟨o,la,p1,p2⟩
 ·have hf:Fr _ _ _ _ _ (.pan (j0c e)) l':=hpa _ _ p1
  show Fr _ _ _ _ _ (.pan (j0c e)) l'
  refine j00 Tryz.func104 rfl rfl rfl ?_
  repeat' ((conv=>whnf);first|refine j02 hf rfl rfl rfl rfl rfl rfl rfl ?_)
  all_goals (try (conv=>whnf))
  all_goals first|exact ⟨rfl,rfl⟩|(exfalso; omega)
 have hd:=(fP ctx a).dn l _ la h0 p1
 cases o with
 |none =>
  cases p2
  obtain ⟨k3,n3,s3,b3,z3,x3,c3,y3,ys3,hf⟩:=hpa _ _ p1
  show Fr _ _ _ _ _ (.ret [bv false]) _
  refine j00 Tryz.func104 rfl rfl rfl ?_
  repeat' ((conv=>whnf);first|apply gT|apply gO|refine j04 rfl rfl ?_|refine j02 hf rfl rfl rfl rfl rfl rfl rfl ?_)
  all_goals (try (conv=>whnf))
  all_goals first|exact ⟨rfl,rfl⟩|(exfalso; omega)
 |some p =>
  obtain ⟨sp,zp,wp,hwp,hf⟩:=hpa _ _ p1
  have hwp':=hwp
  obtain ⟨k3,n3,s3,l3,t3,b3,z3,x3,c3,y3,ys3,-,rfl,-⟩:=hwp'.open
  have p2:(bnd (jez W T ctx b) fun q=>match q with
   |none=>mok false
   |some q=>S ctx p q) la=some (r,l'):=p2
  rcases j0k p2 with ⟨e,p3,rfl⟩|⟨o,lb,p3,p4⟩
  ·have hg:Fr _ _ _ _ _ (.pan (j0c e)) l':=hpb la (by omega) (by omega) _ _ p3
   show Fr _ _ _ _ _ (.pan (j0c e)) l'
   refine j00 Tryz.func104 rfl rfl rfl ?_
   repeat' ((conv=>whnf);first|apply gF|apply gO|refine j02 hf rfl rfl rfl rfl rfl rfl rfl ?_|refine j02 hg rfl rfl rfl rfl rfl rfl rfl ?_)
   all_goals (try (conv=>whnf))
   all_goals first|exact ⟨rfl,rfl⟩|(exfalso; omega)
  have hd2:=(fP ctx b).dn la _ lb (by omega) p3
  cases o with
  |none =>
   cases p4
   obtain ⟨k4,n4,s4,b4,z4,x4,c4,y4,ys4,hg⟩:=hpb la (by omega) (by omega) _ _ p3
   show Fr _ _ _ _ _ (.ret [bv false]) _
   refine j00 Tryz.func104 rfl rfl rfl ?_
   repeat' ((conv=>whnf);first|apply gF|apply gO|refine j04 rfl rfl ?_|refine j02 hf rfl rfl rfl rfl rfl rfl rfl ?_|refine j02 hg rfl rfl rfl rfl rfl rfl rfl ?_)
   all_goals (try (conv=>whnf))
   all_goals first|exact ⟨rfl,rfl⟩|(exfalso; omega)
  |some q =>
   obtain ⟨sq,zq,wq,hwq,hg⟩:=hpb la (by omega) (by omega) _ _ p3
   have hwq':=hwq
   obtain ⟨k4,n4,s4,l4,t4,b4,z4,x4,c4,y4,ys4,-,rfl,-⟩:=hwq'.open
   refine CrB.via (hsm p _ hwp sp zp q _ hwq sq zq lb (by omega) (by omega) p4) (fun e hh=>?_) (fun q hh=>?_)
   ·refine j00 Tryz.func104 rfl rfl rfl ?_
    repeat' ((conv=>whnf);first|apply gT|apply gF|apply gO|refine j02 hf rfl rfl rfl rfl rfl rfl rfl ?_|refine j02 hg rfl rfl rfl rfl rfl rfl rfl ?_|refine j02 hh rfl rfl rfl rfl rfl rfl rfl ?_)
    all_goals (try (conv=>whnf))
    all_goals first|exact ⟨rfl,rfl⟩|(exfalso; omega)
   ·refine j00 Tryz.func104 rfl rfl rfl ?_
    repeat' ((conv=>whnf);first|apply gT|apply gF|apply gO|refine j04 rfl rfl ?_|refine j02 hf rfl rfl rfl rfl rfl rfl rfl ?_|refine j02 hg rfl rfl rfl rfl rfl rfl rfl ?_|refine j02 hh rfl rfl rfl rfl rfl rfl rfl ?_)
    all_goals (try (conv=>whnf))
    all_goals first|exact ⟨rfl,rfl⟩|(exfalso; omega)
def CrZ (args cs:List PV) (tot l:Int) (q:Bool) (r:Except Int Bool) (l':Int):Prop:=match r with
 | .ok p=>Fr 101 args cs tot l (.ret [bv q,bv p]) l'
 | .error e=>Fr 101 args cs tot l (.pan (j0c e)) l'
theorem jh7 {cs:List PV} {tot:Int} {S:List Tm→Tm→Tm→M Bool} (hS:j4Q cs tot S) (fS:∀ c a b,Fine (S c a b)) (ctx:List Tm) (cv:PV) (hc:CtxP ctx cv) (a:Tm) (av:PV) (ha:TmP a av) (sa:shT a=true) (za:sizT a ≤ 2000) (b:Tm) (wv:PV) (hb:TmP b wv) (sb:shT b=true) (zb:sizT b ≤ 2000) (l:Int) (r:Except Int Bool) (l':Int) (h0:0 ≤ l) (h1:l ≤ tot) (hx:jfm S ctx a b l=some (r,l')) :
  CrZ [.ci [.bp 0 0],cv,av,wv] cs tot l (j9x a b) r l':=by
 have hsp:=fun hx=>jbu hS fS ctx cv hc a av ha sa za b wv hb sb zb l r l' h0 h1 hx
 obtain ⟨ka,na,s_a,ba,zza,xa,ca,ya,ysa,aba,aza,axa,hSa,hPa,hza,hxa,hla,hsa,hsha⟩:=j8r ha sa za
 obtain ⟨kb,nb,s_b,bb,zzb,xb,cb,yb,ysb,abb,azb,axb,hSb,hPb,hzb,hxb,hlb,hsb,hshb⟩:=j8r hb sb zb
 have hal:=jbw _ _ hPa _ _ hPb (jnS hsha)
 have hna:=hxa.len
 have hnb:=hxb.len
 have hka:=hPa.kind
 unfold jfm at hx
 have eA:j9x a b=(decide (ka=3) && (decide (0 < axa.length) && (decide (axa.length=axb.length) && j9W (spF a).1 (spF b).1))):=by
  unfold j9x
  rw [hka,hna,hnb]
 rw [eA] at hx ⊢
 clear eA
 generalize j9W (spF a).1 (spF b).1=al at *
 obtain ⟨b0,z0,xs0,rfl,-⟩:=hc
 obtain ⟨k1,n1,s1,l1,t1,b1,z1,x1,c1,y1,ys1,-,rfl,-⟩:=ha.open
 obtain ⟨k2,n2,s2,l2,t2,b2,z2,x2,c2,y2,ys2,-,rfl,-⟩:=hb.open
 by_cases c1:ka=3
 rotate_left
 ·have e:(decide (ka=3) && (decide (0 < axa.length) && (decide (axa.length=axb.length) && al)))=false:=by simp [c1]
  rw [e] at hx ⊢
  cases hx
  show Fr _ _ _ _ _ (.ret [bv false,bv false]) _
  refine j00 Tryz.func101 rfl rfl rfl ?_
  repeat' ((conv=>whnf);first|apply gF|refine gB ?_|apply gO|refine j04 rfl rfl ?_|refine j01 hSa rfl rfl ?_|refine j01 hSb rfl rfl ?_)
  all_goals (try (conv=>whnf))
  all_goals first|exact ⟨rfl,rfl⟩|(exfalso; simp_all; done)|(exfalso; omega)
 by_cases c2:0 < axa.length
 rotate_left
 ·have e:(decide (ka=3) && (decide (0 < axa.length) && (decide (axa.length=axb.length) && al)))=false:=by simp [c2]
  rw [e] at hx ⊢
  cases hx
  show Fr _ _ _ _ _ (.ret [bv false,bv false]) _
  refine j00 Tryz.func101 rfl rfl rfl ?_
  repeat' ((conv=>whnf);first|apply gF|refine gA ?_|refine gB ?_|apply gE<;>intro h|refine gC ?_|refine gD ?_|apply gM<;>intro h|apply gO|refine j04 rfl rfl ?_|refine j01 hSa rfl rfl ?_|refine j01 hSb rfl rfl ?_|refine j01 hal rfl rfl ?_)
  all_goals (try (conv=>whnf))
  all_goals first|exact ⟨rfl,rfl⟩|(exfalso; simp_all; done)|(exfalso; omega)
 by_cases c3:axa.length=axb.length
 rotate_left
 ·have e:(decide (ka=3) && (decide (0 < axa.length) && (decide (axa.length=axb.length) && al)))=false:=by simp [c3]
  rw [e] at hx ⊢
  cases hx
  show Fr _ _ _ _ _ (.ret [bv false,bv false]) _
  refine j00 Tryz.func101 rfl rfl rfl ?_
  repeat' ((conv=>whnf);first|apply gF|refine gA ?_|refine gB ?_|apply gE<;>intro h|refine gC ?_|refine gD ?_|apply gM<;>intro h|apply gO|refine j04 rfl rfl ?_|refine j01 hSa rfl rfl ?_|refine j01 hSb rfl rfl ?_|refine j01 hal rfl rfl ?_)
  all_goals (try (conv=>whnf))
  all_goals first|exact ⟨rfl,rfl⟩|(exfalso; simp_all; done)|(exfalso; omega)
 cases al with
 |false =>
  have e:(decide (ka=3) && (decide (0 < axa.length) && (decide (axa.length=axb.length) && false)))=false:=by simp
  rw [e] at hx ⊢
  cases hx
  show Fr _ _ _ _ _ (.ret [bv false,bv false]) _
  refine j00 Tryz.func101 rfl rfl rfl ?_
  repeat' ((conv=>whnf);first|apply gF|refine gA ?_|refine gB ?_|apply gE<;>intro h|apply gO|refine j04 rfl rfl ?_|refine j01 hSa rfl rfl ?_|refine j01 hSb rfl rfl ?_|refine j01 hal rfl rfl ?_)
  all_goals (try (conv=>whnf))
  all_goals first|exact ⟨rfl,rfl⟩|(exfalso; simp_all; done)|(exfalso; omega)
 |true =>
  have e:(decide (ka=3) && (decide (0 < axa.length) && (decide (axa.length=axb.length) && true)))=true:=by rw [decide_eq_true c1,decide_eq_true c2,decide_eq_true c3]; rfl
  rw [e] at hx ⊢
  have hh:=hsp hx
  cases r with
  |error e =>
   have hh:Fr _ _ _ _ _ (.pan (j0c e)) l':=hh
   show Fr _ _ _ _ _ (.pan (j0c e)) l'
   refine j00 Tryz.func101 rfl rfl rfl ?_
   repeat' ((conv=>whnf);first|apply gT|apply gF|refine gA ?_|refine gB ?_|apply gE<;>intro h|apply gO|refine j04 rfl rfl ?_|refine j01 hSa rfl rfl ?_|refine j01 hSb rfl rfl ?_|refine j01 hal rfl rfl ?_|refine j02 hh rfl rfl rfl rfl rfl rfl rfl ?_)
   all_goals (try (conv=>whnf))
   all_goals first|exact ⟨rfl,rfl⟩|(exfalso; simp_all; done)|(exfalso; omega)
  |ok p =>
   have hh:Fr _ _ _ _ _ (.ret [bv p]) l':=hh
   show Fr _ _ _ _ _ (.ret [bv true,bv p]) l'
   refine j00 Tryz.func101 rfl rfl rfl ?_
   repeat' ((conv=>whnf);first|apply gT|apply gF|refine gA ?_|refine gB ?_|apply gE<;>intro h|apply gO|refine j04 rfl rfl ?_|refine j01 hSa rfl rfl ?_|refine j01 hSb rfl rfl ?_|refine j01 hal rfl rfl ?_|refine j02 hh rfl rfl rfl rfl rfl rfl rfl ?_)
   all_goals (try (conv=>whnf))
   all_goals first|exact ⟨rfl,rfl⟩|(exfalso; simp_all; done)|(exfalso; omega)
end Go.Proofs.YtljnahbgfmflaaaGreatDoor

/-
  A term's type (package conv): sorts, constants, applications. No statement of the seat.
-/
import Derived.Test.YtljnahbgfmflaaaGreatDoorZId
set_option linter.unusedVariables false
set_option maxHeartbeats 4000000
set_option maxRecDepth 100000
set_option linter.unusedSimpArgs false
set_option linter.unnecessarySimpa false
namespace Go.Proofs.YtljnahbgfmflaaaGreatDoor
open Go Go.Am Go.Gw
theorem j8L {l:Lv} (h:j0w l 4=true):sizT (jcE l) ≤ 2000:=by
 have h1:j5g l ≤ 64:=by
  simp only [j0w,Bool.and_eq_true,decide_eq_true_eq] at h
  exact h.2.2.1
 rw [j6s] at h1
 simp only [jcE,sizT,j0B,j0c]
 omega
theorem jcC (l:Lv):shT (jcE l)=true:=j7W (by omega) rfl (by omega) (fun _=>rfl) (by simp) (by omega)
theorem jfH {cs:List PV} {tot:Int} (E:Nv) (W:Tm→M Tm) (T:List Tm→Tm→M Tm) (ctx:List Tm) (cv:PV) (hc:CtxP ctx cv) (t:Tm) (v:PV) (h:TmP t v) (hs:shT t=true) (l:Int) (hk:Fr 99 [.ci [.bp 0 0]] cs tot l (.ret []) (l - 1)) (hkind:t.kind=2) (r:Except Int Tm) (l':Int) (hx:typK E W T ctx t (l - 1)=some (r,l')):j3X cs tot l cv v r l':=by
 unfold typK at hx
 rw [if_neg (by omega),if_pos hkind] at hx
 have h':=h
 have hc':=hc
 obtain ⟨b,z,xs,rfl,-⟩:=hc'
 obtain ⟨k1,n1,s1,l1,t1,b1,z1,x1,c1,y1,ys1,rfl,rfl,hz1,hx1,-,-,hy1,hys1,-⟩:=h'.open
 obtain ⟨a1,a2,a3,a4,a5,a6⟩:=j0q hs
 simp only [Tm.kind] at hkind
 subst hkind
 have hl1:l1.length=1:=by
  have:=a4 (by omega)
  have e:j0H 2=1:=rfl
  omega
 obtain ⟨vl,hvl,hl⟩:=hx1.at (show l1[0]? = some (l1.getD 0 (.mk 0 0 [])) by rw [List.getD_eq_getElem?_getD,List.getElem?_eq_getElem (by omega)]; rfl)
 have e0:(Tm.mk 2 n1 s1 l1 t1).lv=l1.getD 0 (.mk 0 0 []):=rfl
 rw [e0] at hx
 have hS:=jmA _ vl hl
 have hsu:LvP (jfv (l1.getD 0 (.mk 0 0 []))) (encL (jfv (l1.getD 0 (.mk 0 0 [])))):=j8V (by simp) (by simpa using hl.w)
 generalize jfv (l1.getD 0 (.mk 0 0 []))=q at *
 have hso:=jcW q _ hsu
 have hsv:=jcg hsu
 obtain ⟨k5,n5,b5,z5,x5,he5⟩:=j0y q
 unfold jiV at hso hsv
 obtain ⟨k2,n2,l2,b2,z2,x2,-,rfl,-⟩:=hl.open
 rcases j0d hx with ⟨e,q1,rfl⟩|⟨y,la,q1,q2⟩
 ·obtain ⟨rfl,rfl,hf⟩:=jcI _ _ hsu q1
  rw [he5] at hS hf
  refine j2i ?_
  refine j00 Tryz.func71 rfl rfl rfl ?_
  repeat' ((conv=>whnf);first|apply gT|apply gF|apply gQ|refine j02 hk rfl rfl rfl rfl rfl rfl rfl ?_|refine VIdx.mk _ hvl ?_|refine VOk.mk (j07 rfl hz1) ?_|refine j01 hS rfl rfl ?_|refine j0v hf rfl rfl ?_)
  all_goals (try (conv=>whnf))
  all_goals first|exact ⟨rfl,rfl⟩|(exfalso; omega)
 ·obtain ⟨rfl,rfl,hr,hf⟩:=jcI _ _ hsu q1
  cases q2
  rw [he5] at hS hf hso hsv
  refine jfO (jcC y) (j8L hr) hsv ?_
  refine j00 Tryz.func71 rfl rfl rfl ?_
  repeat' ((conv=>whnf);first|apply gT|apply gF|apply gO|apply gQ|refine j03 rfl rfl ?_|refine j02 hk rfl rfl rfl rfl rfl rfl rfl ?_|refine VIdx.mk _ hvl ?_|refine VOk.mk (j07 rfl hz1) ?_|refine j01 hS rfl rfl ?_|refine j01 hf rfl rfl ?_|refine j01 hso rfl rfl ?_)
  all_goals (try (conv=>whnf))
  all_goals first|exact ⟨rfl,rfl⟩|(exfalso; omega)
theorem jdz {cs:List PV} {tot:Int} (E:Nv) (W:Tm→M Tm) (T:List Tm→Tm→M Tm) (hE:NvP E (.cp cs)) (ctx:List Tm) (cv:PV) (hc:CtxP ctx cv) (t:Tm) (v:PV) (h:TmP t v) (hs:shT t=true) (l:Int) (hk:Fr 99 [.ci [.bp 0 0]] cs tot l (.ret []) (l - 1)) (hkind:t.kind=3) (r:Except Int Tm) (l':Int) (hx:typK E W T ctx t (l - 1)=some (r,l')):j3X cs tot l cv v r l':=by
 unfold typK at hx
 rw [if_neg (by omega),if_neg (by omega),if_pos hkind] at hx
 have h':=h
 have hc':=hc
 obtain ⟨b,z,xs,rfl,-⟩:=hc'
 obtain ⟨k1,n1,s1,l1,t1,b1,z1,x1,c1,y1,ys1,rfl,rfl,hz1,hx1,-,-,hy1,hys1,-⟩:=h'.open
 obtain ⟨a1,a2,a3,a4,a5,a6⟩:=j0q hs
 simp only [Tm.kind] at hkind
 subst hkind
 have e0:(Tm.mk 3 n1 s1 l1 t1).name=s1:=rfl
 have e1:(Tm.mk 3 n1 s1 l1 t1).levels=l1:=rfl
 rw [e0,e1] at hx
 have hl4:=a3 rfl
 have hT:=jfE E (.cp cs) hE s1 l1 b1 z1 x1 hz1 hx1 (by omega)
 have hen:=jim cs tot (l - 1)
 have hpt:=fun x=>@jd3 E s1 l1 x
 have hnz:=(jdU (E:=E) s1 l1).2
 unfold exF at hx
 cases hx
 cases hq:typeAt E s1 l1 with
 |error e =>
  rw [hq] at hT hnz
  have he:¬ e=0:=fun e'=>hnz (by rw [e'])
  simp only [errV] at hT
  have hm:=jlx tz (.ag zTm) j5i e he
  refine j2i ?_
  refine j00 Tryz.func71 rfl rfl rfl ?_
  repeat' ((conv=>whnf);first|apply gT|apply gF|apply gO|apply gP|refine j02 hk rfl rfl rfl rfl rfl rfl rfl ?_|refine j02 hen rfl rfl rfl rfl rfl rfl rfl ?_|refine j05 hT (fun _=>?_)|refine j0Y hm (fun _=>?_)|apply gK)
  all_goals (try (conv=>whnf))
  all_goals first|exact ⟨rfl,rfl⟩|(exfalso; omega)
 |ok x =>
  rw [hq] at hT
  obtain ⟨en,p1,p2⟩:=hpt x hq
  have hxw:TmW x:=j8G hx1.ws (hE.entry p1).1 p2
  have hm:=jl1 x _ hxw
  simp only [errV] at hT
  unfold TmW at hxw
  obtain ⟨k9,n9,s9,b9,z9,x9,c9,y9,ys9,he9⟩:=j0a x
  rw [he9] at hT hm hxw
  refine jfO (j7w p2) (j3I (j3Y p2).2.2) hxw ?_
  refine j00 Tryz.func71 rfl rfl rfl ?_
  repeat' ((conv=>whnf);first|apply gT|apply gF|apply gO|apply gP|refine j03 rfl rfl ?_|refine j02 hk rfl rfl rfl rfl rfl rfl rfl ?_|refine j02 hen rfl rfl rfl rfl rfl rfl rfl ?_|refine j05 hT (fun _=>?_)|refine j05 hm (fun _=>?_)|apply gK)
  all_goals (try (conv=>whnf))
  all_goals first|exact ⟨rfl,rfl⟩|(exfalso; omega)
theorem jiA {cs:List PV} {tot:Int} (E:Nv) (W:Tm→M Tm) (T:List Tm→Tm→M Tm) (hW:WOk cs tot W) (hT:jax cs tot T) (fW:∀ t,Fine (W t)) (fT:∀ c t,Fine (T c t)) (ctx:List Tm) (cv:PV) (hc:CtxP ctx cv) (t:Tm) (v:PV) (h:TmP t v) (hs:shT t=true) (l:Int) (h0:1 ≤ l) (h1:l ≤ tot) (hk:Fr 99 [.ci [.bp 0 0]] cs tot l (.ret []) (l - 1)) (hkind:t.kind=4) (r:Except Int Tm) (l':Int) (hx:typK E W T ctx t (l - 1)=some (r,l')):j3X cs tot l cv v r l':=by
 unfold typK at hx
 rw [if_neg (by omega),if_neg (by omega),if_neg (by omega),if_pos hkind] at hx
 have h':=h
 have hc':=hc
 obtain ⟨b,z,xs,rfl,-⟩:=hc'
 obtain ⟨k1,n1,s1,l1,t1,b1,z1,x1,c1,y1,ys1,rfl,rfl,hz1,hx1,-,-,hy1,hys1,-⟩:=h'.open
 obtain ⟨a1,a2,a3,a4,a5,a6⟩:=j0q hs
 simp only [Tm.kind] at hkind
 subst hkind
 have hlen2:t1.length=2:=by
  have e:j0T 4=2:=rfl
  omega
 obtain ⟨v0,hv0,h0'⟩:=hys1.at (getD_at (ts:=t1) (i:=0) (by omega))
 obtain ⟨v1,hv1,h1'⟩:=hys1.at (getD_at (ts:=t1) (i:=1) (by omega))
 have m0:t1.getD 0 tz ∈ t1:=List.mem_of_getElem? (getD_at (by omega))
 have m1:t1.getD 1 tz ∈ t1:=List.mem_of_getElem? (getD_at (by omega))
 have e0:(Tm.mk 4 n1 s1 l1 t1).arg 0=t1.getD 0 tz:=rfl
 have e1:(Tm.mk 4 n1 s1 l1 t1).arg 1=t1.getD 1 tz:=rfl
 rw [e0,e1] at hx
 obtain ⟨k2,n2,s2,l2,t2,b2,z2,x2,c2,y2,ys2,-,rfl,-⟩:=h0'.open
 obtain ⟨k3,n3,s3,l3,t3,b3,z3,x3,c3,y3,ys3,-,rfl,-⟩:=h1'.open
 rcases j0d hx with ⟨e,q1,rfl⟩|⟨y,la,q1,q2⟩
 ·obtain ⟨-,hf⟩:=hT ctx _ hc _ _ h0' (a5 _ m0) (l - 1) _ l' (by omega) (by omega) q1
  have hf:Fr _ _ _ _ _ (.pan (j0i e)) l':=hf
  refine j2i ?_
  refine j00 Tryz.func71 rfl rfl rfl ?_
  repeat' ((conv=>whnf);first|apply gT|apply gF|apply gQ|refine j02 hk rfl rfl rfl rfl rfl rfl rfl ?_|refine VIdx.mk _ hv0 ?_|refine VOk.mk (j07 rfl hy1) ?_|refine j02 hf rfl rfl rfl rfl rfl rfl rfl ?_)
  all_goals (try (conv=>whnf))
  all_goals first|exact ⟨rfl,rfl⟩|(exfalso; omega)
 obtain ⟨hy,wy,hwy,hf⟩:=hT ctx _ hc _ _ h0' (a5 _ m0) (l - 1) _ la (by omega) (by omega) q1
 have hla:=(fT ctx (t1.getD 0 tz)).dn (l - 1) _ la (by omega) q1
 obtain ⟨k4,n4,s4,l4,t4,b4,z4,x4,c4,y4,ys4,-,rfl,-⟩:=hwy.open
 rcases j0d q2 with ⟨e,q3,rfl⟩|⟨g,lb,q3,q4⟩
 ·obtain ⟨-,hg⟩:=hW y _ hwy la _ l' (by omega) (by omega) q3
  have hg:Fr _ _ _ _ _ (.pan (j0i e)) l':=hg
  refine j2i ?_
  refine j00 Tryz.func71 rfl rfl rfl ?_
  repeat' ((conv=>whnf);first|apply gT|apply gF|apply gQ|refine j02 hk rfl rfl rfl rfl rfl rfl rfl ?_|refine VIdx.mk _ hv0 ?_|refine VOk.mk (j07 rfl hy1) ?_|refine j02 hf rfl rfl rfl rfl rfl rfl rfl ?_|refine j02 hg rfl rfl rfl rfl rfl rfl rfl ?_)
  all_goals (try (conv=>whnf))
  all_goals first|exact ⟨rfl,rfl⟩|(exfalso; omega)
 obtain ⟨hg2,wg,hwg,hg⟩:=hW y _ hwy la _ lb (by omega) (by omega) q3
 obtain ⟨hgs,hgz⟩:=hg2 g rfl
 obtain ⟨k5,n5,s5,l5,t5,b5,z5,x5,c5,y5,ys5,e5,rfl,-,-,-,-,hy5,hys5,-⟩:=hwg.open
 subst e5
 have ek:(Tm.mk k5 n5 s5 l5 t5).kind=k5:=rfl
 have ea:(Tm.mk k5 n5 s5 l5 t5).arg 1=t5.getD 1 tz:=rfl
 rw [ek,ea] at q4
 by_cases hk6:k5=6
 ·rw [decide_eq_true hk6] at q4
  have q4:j4b (InstF (t5.getD 1 tz) [t1.getD 1 tz]) lb=some (r,l'):=q4
  have hl5:t5.length=2:=by
   have:=(j0q hgs).2.1
   subst hk6
   have e:j0T 6=2:=rfl
   omega
  obtain ⟨v5,hv5,h5'⟩:=hys5.at (getD_at (ts:=t5) (i:=1) (by omega))
  have hn:Pf C1 97 [bv (decide (k5=6)),iv 20] []:=by
   rw [decide_eq_true hk6]
   exact j1G 20
  have hI:=j5r _ _ h5' [t1.getD 1 tz] true 5 _ (.inl rfl) ⟨_,[],rfl,h1',rfl⟩ (by simp)
  have hoW:TmW ((InstF (t5.getD 1 tz) [t1.getD 1 tz]).getD tz):=j5Q fun x hx=>j7S (by simpa using h1'.w) h5'.w hx
  rw [j4r] at hI
  have hoS:∀ x,InstF (t5.getD 1 tz) [t1.getD 1 tz]=some x→shT x=true:=fun x hx=>j5v hx
  generalize InstF (t5.getD 1 tz) [t1.getD 1 tz]=o at *
  obtain ⟨rfl,hfi⟩:=j1Y o _ hoW q4
  obtain ⟨k6,n6,s6,l6,t6,b6,z6,x6,c6,y6,ys6,-,rfl,-⟩:=h5'.open
  unfold TmW at hoW
  obtain ⟨k9,n9,s9,b9,z9,x9,c9,y9,ys9,he9⟩:=j0a (o.getD tz)
  rw [he9] at hI hfi hoW
  cases r with
  |error e =>
   obtain ⟨rfl,hfi⟩:=hfi
   refine j2i ?_
   refine j00 Tryz.func71 rfl rfl rfl ?_
   repeat' ((conv=>whnf);first|apply gT|apply gF|apply gO|apply gP|apply gQ|refine j02 hk rfl rfl rfl rfl rfl rfl rfl ?_|refine VIdx.mk _ hv0 ?_|refine VIdx.mk _ hv1 ?_|refine VOk.mk (j07 rfl hy1) ?_|refine j02 hf rfl rfl rfl rfl rfl rfl rfl ?_|refine j02 hg rfl rfl rfl rfl rfl rfl rfl ?_|refine j01 hn rfl rfl ?_|refine VIdx.mk _ hv5 ?_|refine VOk.mk (j07 rfl hy5) ?_|refine j05 hI (fun _=>?_)|refine j0Y hfi (fun _=>?_)|apply gK)
   all_goals (try (conv=>whnf))
   all_goals first|exact ⟨rfl,rfl⟩|(exfalso; omega)
  |ok x =>
   obtain ⟨rfl,hzx,hfi⟩:=hfi
   refine jfO (hoS _ rfl) hzx hoW ?_
   refine j00 Tryz.func71 rfl rfl rfl ?_
   repeat' ((conv=>whnf);first|apply gT|apply gF|apply gO|apply gP|apply gQ|refine j03 rfl rfl ?_|refine j02 hk rfl rfl rfl rfl rfl rfl rfl ?_|refine VIdx.mk _ hv0 ?_|refine VIdx.mk _ hv1 ?_|refine VOk.mk (j07 rfl hy1) ?_|refine j02 hf rfl rfl rfl rfl rfl rfl rfl ?_|refine j02 hg rfl rfl rfl rfl rfl rfl rfl ?_|refine j01 hn rfl rfl ?_|refine VIdx.mk _ hv5 ?_|refine VOk.mk (j07 rfl hy5) ?_|refine j05 hI (fun _=>?_)|refine j05 hfi (fun _=>?_)|apply gK)
   all_goals (try (conv=>whnf))
   all_goals first|exact ⟨rfl,rfl⟩|(exfalso; omega)
 ·rw [decide_eq_false hk6] at q4
  cases q4
  have hn:Finds C1 97 [bv (decide (k5=6)),iv 20] [] fun r _=>r = .pan (j0i 20):=by
   rw [decide_eq_false hk6]
   exact j1Z 20
  refine j2i ?_
  refine j00 Tryz.func71 rfl rfl rfl ?_
  repeat' ((conv=>whnf);first|apply gT|apply gF|apply gO|apply gQ|refine j02 hk rfl rfl rfl rfl rfl rfl rfl ?_|refine VIdx.mk _ hv0 ?_|refine VOk.mk (j07 rfl hy1) ?_|refine j02 hf rfl rfl rfl rfl rfl rfl rfl ?_|refine j02 hg rfl rfl rfl rfl rfl rfl rfl ?_|refine j0v hn rfl rfl ?_)
  all_goals (try (conv=>whnf))
  all_goals first|exact ⟨rfl,rfl⟩|(exfalso; omega)
open Go Go.Am Go.Gw
theorem jiY {cs:List PV} {tot:Int} (E:Nv) (W:Tm→M Tm) (T:List Tm→Tm→M Tm) (hT:jax cs tot T) (fT:∀ c t,Fine (T c t)) (ctx:List Tm) (cv:PV) (hc:CtxP ctx cv) (t:Tm) (v:PV) (h:TmP t v) (hs:shT t=true) (l:Int) (h0:1 ≤ l) (h1:l ≤ tot) (hk:Fr 99 [.ci [.bp 0 0]] cs tot l (.ret []) (l - 1)) (hkind:t.kind=5) (r:Except Int Tm) (l':Int) (hx:typK E W T ctx t (l - 1)=some (r,l')):j3X cs tot l cv v r l':=by
 unfold typK at hx
 rw [if_neg (by omega),if_neg (by omega),if_neg (by omega),if_neg (by omega),if_pos hkind] at hx
 have h':=h
 have hc':=hc
 obtain ⟨b,z,xs,rfl,-⟩:=hc'
 obtain ⟨k1,n1,s1,l1,t1,b1,z1,x1,c1,y1,ys1,rfl,rfl,hz1,hx1,-,-,hy1,hys1,-⟩:=h'.open
 obtain ⟨a1,a2,a3,a4,a5,a6⟩:=j0q hs
 simp only [Tm.kind] at hkind
 subst hkind
 have hlen2:t1.length=2:=by
  have e:j0T 5=2:=rfl
  omega
 obtain ⟨v0,hv0,h0'⟩:=hys1.at (getD_at (ts:=t1) (i:=0) (by omega))
 obtain ⟨v1,hv1,h1'⟩:=hys1.at (getD_at (ts:=t1) (i:=1) (by omega))
 have m0:t1.getD 0 tz ∈ t1:=List.mem_of_getElem? (getD_at (by omega))
 have m1:t1.getD 1 tz ∈ t1:=List.mem_of_getElem? (getD_at (by omega))
 have e0:(Tm.mk 5 n1 s1 l1 t1).arg 0=t1.getD 0 tz:=rfl
 have e1:(Tm.mk 5 n1 s1 l1 t1).arg 1=t1.getD 1 tz:=rfl
 rw [e0,e1] at hx
 obtain ⟨k2,n2,s2,l2,t2,b2,z2,x2,c2,y2,ys2,-,rfl,-⟩:=h0'.open
 obtain ⟨k3,n3,s3,l3,t3,b3,z3,x3,c3,y3,ys3,-,rfl,-⟩:=h1'.open
 rcases j0d hx with ⟨e,q1,rfl⟩|⟨c2',la,q1,q2⟩
 ·obtain ⟨rfl,rfl,hw⟩:=j2w ctx _ hc _ _ h0' (a5 _ m0) q1
  refine j2i ?_
  refine j00 Tryz.func71 rfl rfl rfl ?_
  repeat' ((conv=>whnf);first|apply gT|apply gF|apply gO|apply gQ|refine j02 hk rfl rfl rfl rfl rfl rfl rfl ?_|refine VIdx.mk _ hv0 ?_|refine VIdx.mk _ hv1 ?_|refine VOk.mk (j07 rfl hy1) ?_|refine j0Y hw (fun _=>?_)|apply gK)
  all_goals (try (conv=>whnf))
  all_goals first|exact ⟨rfl,rfl⟩|(exfalso; omega)
 obtain ⟨rfl,rfl,wc,hwc,hw⟩:=j2w ctx _ hc _ _ h0' (a5 _ m0) q1
 have hwc':=hwc
 obtain ⟨b7,z7,x7,rfl,-⟩:=hwc'
 rcases j0d q2 with ⟨e,q3,rfl⟩|⟨y,lb,q3,q4⟩
 ·obtain ⟨-,hf⟩:=hT _ _ hwc _ _ h1' (a5 _ m1) (l - 1) _ l' (by omega) (by omega) q3
  have hf:Fr _ _ _ _ _ (.pan (j0i e)) l':=hf
  refine j2i ?_
  refine j00 Tryz.func71 rfl rfl rfl ?_
  repeat' ((conv=>whnf);first|apply gT|apply gF|apply gO|apply gP|apply gQ|refine j02 hk rfl rfl rfl rfl rfl rfl rfl ?_|refine VIdx.mk _ hv0 ?_|refine VIdx.mk _ hv1 ?_|refine VOk.mk (j07 rfl hy1) ?_|refine j05 hw (fun _=>?_)|refine j02 hf rfl rfl rfl rfl rfl rfl rfl ?_|apply gK)
  all_goals (try (conv=>whnf))
  all_goals first|exact ⟨rfl,rfl⟩|(exfalso; omega)
 obtain ⟨hy,wy,hwy,hf⟩:=hT _ _ hwc _ _ h1' (a5 _ m1) (l - 1) _ lb (by omega) (by omega) q3
 obtain ⟨hys,hyz⟩:=hy y rfl
 obtain ⟨wp,hwp,hp⟩:=jo9 y _ hwy [t1.getD 0 tz] true 5 _ (.inl rfl) ⟨_,[],rfl,h0',rfl⟩ (by simp)
 have hps:shT (overR 6 [t1.getD 0 tz] y)=true:=j7W (by omega) rfl (by omega) (fun _=>rfl) (fun x hx=>by
  rcases List.mem_cons.1 hx with rfl|hx
  ·exact a5 _ m0
  ·rw [List.mem_singleton.1 hx]
   exact hys) (by omega)
 have hwp:TmP ((some (overR 6 [t1.getD 0 tz] y)).getD tz) wp:=hwp
 obtain ⟨rfl,hfi⟩:=j1Y _ wp hwp q4
 obtain ⟨k4,n4,s4,l4,t4,b4,z4,x4,c4,y4,ys4,-,rfl,-⟩:=hwy.open
 obtain ⟨k5,n5,s5,l5,t5,b5,z5,x5,c5,y5,ys5,-,rfl,-⟩:=hwp.open
 cases r with
 |error e =>
  obtain ⟨rfl,hfi⟩:=hfi
  refine j2i ?_
  refine j00 Tryz.func71 rfl rfl rfl ?_
  repeat' ((conv=>whnf);first|apply gT|apply gF|apply gO|apply gP|apply gQ|refine j02 hk rfl rfl rfl rfl rfl rfl rfl ?_|refine VIdx.mk _ hv0 ?_|refine VIdx.mk _ hv1 ?_|refine VOk.mk (j07 rfl hy1) ?_|refine j05 hw (fun _=>?_)|refine j02 hf rfl rfl rfl rfl rfl rfl rfl ?_|refine j05 hp (fun _=>?_)|refine j0Y hfi (fun _=>?_)|apply gK)
  all_goals (try (conv=>whnf))
  all_goals first|exact ⟨rfl,rfl⟩|(exfalso; omega)
 |ok x =>
  obtain ⟨e,hzx,hfi⟩:=hfi
  cases e
  refine jfO hps hzx hwp ?_
  refine j00 Tryz.func71 rfl rfl rfl ?_
  repeat' ((conv=>whnf);first|apply gT|apply gF|apply gO|apply gP|apply gQ|refine j03 rfl rfl ?_|refine j02 hk rfl rfl rfl rfl rfl rfl rfl ?_|refine VIdx.mk _ hv0 ?_|refine VIdx.mk _ hv1 ?_|refine VOk.mk (j07 rfl hy1) ?_|refine j05 hw (fun _=>?_)|refine j02 hf rfl rfl rfl rfl rfl rfl rfl ?_|refine j05 hp (fun _=>?_)|refine j05 hfi (fun _=>?_)|apply gK)
  all_goals (try (conv=>whnf))
  all_goals first|exact ⟨rfl,rfl⟩|(exfalso; omega)
theorem jk6 {cs:List PV} {tot:Int} (E:Nv) (W:Tm→M Tm) (T:List Tm→Tm→M Tm) (hS:jnH cs tot (sortB W T)) (fS:∀ c t,Fine (sortB W T c t)) (ctx:List Tm) (cv:PV) (hc:CtxP ctx cv) (t:Tm) (v:PV) (h:TmP t v) (hs:shT t=true) (l:Int) (h0:1 ≤ l) (h1:l ≤ tot) (hk:Fr 99 [.ci [.bp 0 0]] cs tot l (.ret []) (l - 1)) (hkind:t.kind=6) (r:Except Int Tm) (l':Int) (hx:typK E W T ctx t (l - 1)=some (r,l')):j3X cs tot l cv v r l':=by
 unfold typK at hx
 rw [if_neg (by omega),if_neg (by omega),if_neg (by omega),if_neg (by omega),if_neg (by omega),if_pos hkind] at hx
 have h':=h
 have hc':=hc
 obtain ⟨b,z,xs,rfl,-⟩:=hc'
 obtain ⟨k1,n1,s1,l1,t1,b1,z1,x1,c1,y1,ys1,rfl,rfl,hz1,hx1,-,-,hy1,hys1,-⟩:=h'.open
 obtain ⟨a1,a2,a3,a4,a5,a6⟩:=j0q hs
 simp only [Tm.kind] at hkind
 subst hkind
 have hlen2:t1.length=2:=by
  have e:j0T 6=2:=rfl
  omega
 obtain ⟨v0,hv0,h0'⟩:=hys1.at (getD_at (ts:=t1) (i:=0) (by omega))
 obtain ⟨v1,hv1,h1'⟩:=hys1.at (getD_at (ts:=t1) (i:=1) (by omega))
 have m0:t1.getD 0 tz ∈ t1:=List.mem_of_getElem? (getD_at (by omega))
 have m1:t1.getD 1 tz ∈ t1:=List.mem_of_getElem? (getD_at (by omega))
 have e0:(Tm.mk 6 n1 s1 l1 t1).arg 0=t1.getD 0 tz:=rfl
 have e1:(Tm.mk 6 n1 s1 l1 t1).arg 1=t1.getD 1 tz:=rfl
 rw [e0,e1] at hx
 obtain ⟨k2,n2,s2,l2,t2,b2,z2,x2,c2,y2,ys2,-,rfl,-⟩:=h0'.open
 obtain ⟨k3,n3,s3,l3,t3,b3,z3,x3,c3,y3,ys3,-,rfl,-⟩:=h1'.open
 rcases j0d hx with ⟨e,q1,rfl⟩|⟨lv,la,q1,q2⟩
 ·have hf:=hS ctx _ hc _ _ h0' (a5 _ m0) (l - 1) _ l' (by omega) (by omega) q1
  have hf:Fr _ _ _ _ _ (.pan (j0i e)) l':=hf
  refine j2i ?_
  refine j00 Tryz.func71 rfl rfl rfl ?_
  repeat' ((conv=>whnf);first|apply gT|apply gF|apply gQ|refine j02 hk rfl rfl rfl rfl rfl rfl rfl ?_|refine VIdx.mk _ hv0 ?_|refine VOk.mk (j07 rfl hy1) ?_|refine j02 hf rfl rfl rfl rfl rfl rfl rfl ?_)
  all_goals (try (conv=>whnf))
  all_goals first|exact ⟨rfl,rfl⟩|(exfalso; omega)
 obtain ⟨wl,hwl,hf⟩:=hS ctx _ hc _ _ h0' (a5 _ m0) (l - 1) _ la (by omega) (by omega) q1
 have hla:=(fS ctx (t1.getD 0 tz)).dn (l - 1) _ la (by omega) q1
 obtain ⟨k4,n4,l4,b4,z4,x4,-,rfl,-⟩:=hwl.open
 rcases j0d q2 with ⟨e,q3,rfl⟩|⟨c2',lb,q3,q4⟩
 ·obtain ⟨rfl,rfl,hw⟩:=j2w ctx _ hc _ _ h0' (a5 _ m0) q3
  refine j2i ?_
  refine j00 Tryz.func71 rfl rfl rfl ?_
  repeat' ((conv=>whnf);first|apply gT|apply gF|apply gO|apply gQ|refine j02 hk rfl rfl rfl rfl rfl rfl rfl ?_|refine VIdx.mk _ hv0 ?_|refine VIdx.mk _ hv1 ?_|refine VOk.mk (j07 rfl hy1) ?_|refine j02 hf rfl rfl rfl rfl rfl rfl rfl ?_|refine j0Y hw (fun _=>?_)|apply gK)
  all_goals (try (conv=>whnf))
  all_goals first|exact ⟨rfl,rfl⟩|(exfalso; omega)
 obtain ⟨rfl,rfl,wc,hwc,hw⟩:=j2w ctx _ hc _ _ h0' (a5 _ m0) q3
 have hwc':=hwc
 obtain ⟨b7,z7,x7,rfl,-⟩:=hwc'
 rcases j0d q4 with ⟨e,q5,rfl⟩|⟨mv,lc,q5,q6⟩
 ·have hg:=hS _ _ hwc _ _ h1' (a5 _ m1) lb _ l' (by omega) (by omega) q5
  have hg:Fr _ _ _ _ _ (.pan (j0i e)) l':=hg
  refine j2i ?_
  refine j00 Tryz.func71 rfl rfl rfl ?_
  repeat' ((conv=>whnf);first|apply gT|apply gF|apply gO|apply gP|apply gQ|refine j02 hk rfl rfl rfl rfl rfl rfl rfl ?_|refine VIdx.mk _ hv0 ?_|refine VIdx.mk _ hv1 ?_|refine VOk.mk (j07 rfl hy1) ?_|refine j02 hf rfl rfl rfl rfl rfl rfl rfl ?_|refine j05 hw (fun _=>?_)|refine j02 hg rfl rfl rfl rfl rfl rfl rfl ?_|apply gK)
  all_goals (try (conv=>whnf))
  all_goals first|exact ⟨rfl,rfl⟩|(exfalso; omega)
 obtain ⟨wm,hwm,hg⟩:=hS _ _ hwc _ _ h1' (a5 _ m1) lb _ lc (by omega) (by omega) q5
 have hM:=jdV lv _ hwl mv _ hwm
 have hsu:LvP (j7I lv mv) (encL (j7I lv mv)):=by
  unfold j7I
  split
  ·exact j8V (by simp) (by simp)
  ·split
   ·exact hwm.w
   ·exact j8V (by simp) (fun x hx=>by
     rcases List.mem_cons.1 hx with rfl|hx
     ·exact hwl.w
     ·rw [List.mem_singleton.1 hx]
      exact hwm.w)
 generalize j7I lv mv=q at *
 have hso:=jcW q _ hsu
 have hsv:=jcg hsu
 obtain ⟨k5,n5,b5,z5,x5,he5⟩:=j0y q
 unfold jiV at hso hsv
 obtain ⟨k6,n6,l6,b6,z6,x6,-,rfl,-⟩:=hwm.open
 rcases j0d q6 with ⟨e,q7,rfl⟩|⟨y,ld,q7,q8⟩
 ·obtain ⟨rfl,rfl,hsm⟩:=jcI _ _ hsu q7
  rw [he5] at hM hsm
  refine j2i ?_
  refine j00 Tryz.func71 rfl rfl rfl ?_
  repeat' ((conv=>whnf);first|apply gT|apply gF|apply gO|apply gP|apply gQ|refine j02 hk rfl rfl rfl rfl rfl rfl rfl ?_|refine VIdx.mk _ hv0 ?_|refine VIdx.mk _ hv1 ?_|refine VOk.mk (j07 rfl hy1) ?_|refine j02 hf rfl rfl rfl rfl rfl rfl rfl ?_|refine j05 hw (fun _=>?_)|refine j02 hg rfl rfl rfl rfl rfl rfl rfl ?_|refine j01 hM rfl rfl ?_|refine j0v hsm rfl rfl ?_|apply gK)
  all_goals (try (conv=>whnf))
  all_goals first|exact ⟨rfl,rfl⟩|(exfalso; omega)
 ·obtain ⟨rfl,rfl,hr,hsm⟩:=jcI _ _ hsu q7
  cases q8
  rw [he5] at hM hsm hso hsv
  refine jfO (jcC y) (j8L hr) hsv ?_
  refine j00 Tryz.func71 rfl rfl rfl ?_
  repeat' ((conv=>whnf);first|apply gT|apply gF|apply gO|apply gP|apply gQ|refine j03 rfl rfl ?_|refine j02 hk rfl rfl rfl rfl rfl rfl rfl ?_|refine VIdx.mk _ hv0 ?_|refine VIdx.mk _ hv1 ?_|refine VOk.mk (j07 rfl hy1) ?_|refine j02 hf rfl rfl rfl rfl rfl rfl rfl ?_|refine j05 hw (fun _=>?_)|refine j02 hg rfl rfl rfl rfl rfl rfl rfl ?_|refine j01 hM rfl rfl ?_|refine j01 hsm rfl rfl ?_|refine j01 hso rfl rfl ?_|apply gK)
  all_goals (try (conv=>whnf))
  all_goals first|exact ⟨rfl,rfl⟩|(exfalso; omega)
theorem jhK {cs:List PV} {tot:Int} (E:Nv) (W:Tm→M Tm) (T:List Tm→Tm→M Tm) (hT:jax cs tot T) (ctx:List Tm) (cv:PV) (hc:CtxP ctx cv) (t:Tm) (v:PV) (h:TmP t v) (hs:shT t=true) (l:Int) (h0:1 ≤ l) (h1:l ≤ tot) (hk:Fr 99 [.ci [.bp 0 0]] cs tot l (.ret []) (l - 1)) (hkind:t.kind=7) (r:Except Int Tm) (l':Int) (hx:typK E W T ctx t (l - 1)=some (r,l')):j3X cs tot l cv v r l':=by
 unfold typK at hx
 rw [if_neg (by omega),if_neg (by omega),if_neg (by omega),if_neg (by omega),if_neg (by omega),if_neg (by omega)] at hx
 have h':=h
 have hc':=hc
 obtain ⟨b,z,xs,rfl,-⟩:=hc'
 obtain ⟨k1,n1,s1,l1,t1,b1,z1,x1,c1,y1,ys1,rfl,rfl,hz1,hx1,-,-,hy1,hys1,-⟩:=h'.open
 obtain ⟨a1,a2,a3,a4,a5,a6⟩:=j0q hs
 simp only [Tm.kind] at hkind
 subst hkind
 have hlen3:t1.length=3:=by
  have e:j0T 7=3:=rfl
  omega
 obtain ⟨v1,hv1,h1'⟩:=hys1.at (getD_at (ts:=t1) (i:=1) (by omega))
 obtain ⟨v2,hv2,h2'⟩:=hys1.at (getD_at (ts:=t1) (i:=2) (by omega))
 have e1:(Tm.mk 7 n1 s1 l1 t1).arg 1=t1.getD 1 tz:=rfl
 have e2:(Tm.mk 7 n1 s1 l1 t1).arg 2=t1.getD 2 tz:=rfl
 rw [e1,e2] at hx
 have hI:=j5r _ _ h2' [t1.getD 1 tz] true 5 _ (.inl rfl) ⟨_,[],rfl,h1',rfl⟩ (by simp)
 have hoW:TmW ((InstF (t1.getD 2 tz) [t1.getD 1 tz]).getD tz):=j5Q fun x hx=>j7S (by simpa using h1'.w) h2'.w hx
 rw [j4r] at hI
 have hoS:∀ x,InstF (t1.getD 2 tz) [t1.getD 1 tz]=some x→shT x=true:=fun x hx=>j5v hx
 generalize InstF (t1.getD 2 tz) [t1.getD 1 tz]=o at *
 obtain ⟨k2,n2,s2,l2,t2,b2,z2,x2,c2,y2,ys2,-,rfl,-⟩:=h1'.open
 obtain ⟨k3,n3,s3,l3,t3,b3,z3,x3,c3,y3,ys3,-,rfl,-⟩:=h2'.open
 unfold TmW at hoW
 obtain ⟨k9,n9,s9,b9,z9,x9,c9,y9,ys9,he9⟩:=j0a (o.getD tz)
 rw [he9] at hI hoW
 rcases j0d hx with ⟨e,q1,rfl⟩|⟨y,la,q1,q2⟩
 ·obtain ⟨rfl,rfl,hfi⟩:=j1Y o _ hoW q1
  refine j2i ?_
  refine j00 Tryz.func71 rfl rfl rfl ?_
  repeat' ((conv=>whnf);first|apply gF|apply gO|apply gP|apply gQ|refine j02 hk rfl rfl rfl rfl rfl rfl rfl ?_|refine VIdx.mk _ hv1 ?_|refine VIdx.mk _ hv2 ?_|refine VOk.mk (j07 rfl hy1) ?_|refine j05 hI (fun _=>?_)|refine j0Y hfi (fun _=>?_)|apply gK)
  all_goals (try (conv=>whnf))
  all_goals first|exact ⟨rfl,rfl⟩|(exfalso; omega)
 ·obtain ⟨rfl,rfl,hzy,hfi⟩:=j1Y o _ hoW q1
  have hwy:TmP y (.ag [iv k9,iv n9,sv s9,.sl b9 z9 x9,.sl c9 y9 ys9]):=hoW
  obtain ⟨hrs,hf⟩:=hT ctx _ hc _ _ hwy (hoS _ rfl) (l - 1) r l' (by omega) (by omega) q2
  cases r with
  |error e =>
   have hf:Fr _ _ _ _ _ (.pan (j0i e)) l':=hf
   refine j2i ?_
   refine j00 Tryz.func71 rfl rfl rfl ?_
   repeat' ((conv=>whnf);first|apply gF|apply gO|apply gP|apply gQ|refine j02 hk rfl rfl rfl rfl rfl rfl rfl ?_|refine VIdx.mk _ hv1 ?_|refine VIdx.mk _ hv2 ?_|refine VOk.mk (j07 rfl hy1) ?_|refine j05 hI (fun _=>?_)|refine j05 hfi (fun _=>?_)|refine j02 hf rfl rfl rfl rfl rfl rfl rfl ?_|apply gK)
   all_goals (try (conv=>whnf))
   all_goals first|exact ⟨rfl,rfl⟩|(exfalso; omega)
  |ok x =>
   obtain ⟨wx,hwx,hf⟩:=hf
   obtain ⟨r1,r2⟩:=hrs x rfl
   obtain ⟨k4,n4,s4,l4,t4,b4,z4,x4,c4,y4,ys4,-,rfl,-⟩:=hwx.open
   refine jfO r1 r2 hwx ?_
   refine j00 Tryz.func71 rfl rfl rfl ?_
   repeat' ((conv=>whnf);first|apply gF|apply gO|apply gP|apply gQ|refine j03 rfl rfl ?_|refine j02 hk rfl rfl rfl rfl rfl rfl rfl ?_|refine VIdx.mk _ hv1 ?_|refine VIdx.mk _ hv2 ?_|refine VOk.mk (j07 rfl hy1) ?_|refine j05 hI (fun _=>?_)|refine j05 hfi (fun _=>?_)|refine j02 hf rfl rfl rfl rfl rfl rfl rfl ?_|apply gK)
   all_goals (try (conv=>whnf))
   all_goals first|exact ⟨rfl,rfl⟩|(exfalso; omega)
theorem jnc {cs:List PV} {tot:Int} (ht:tot ≤ 1048576) (E:Nv) (hE:NvP E (.cp cs)) (W:Tm→M Tm) (T:List Tm→Tm→M Tm) (hW:WOk cs tot W) (hT:jax cs tot T) (fW:∀ t,Fine (W t)) (fT:∀ c t,Fine (T c t)):jax cs tot (typB E W T):=by
 intro ctx cv hc t v h hs l r l' h0 h1 hx
 rw [jp9] at hx
 rcases j0d hx with ⟨e,q1,rfl⟩|⟨u0,la,q1,q2⟩
 ·rcases j0Z q1 with ⟨a1,a2,a3⟩|⟨a1,a2,a3⟩
  ·cases a3
  ·cases a3
   subst a2
   have hk:=j8A cs tot l' a1
   refine j2i ?_
   obtain ⟨b,z,xs,rfl,-⟩:=hc
   obtain ⟨k1,n1,s1,l1,t1,b1,z1,x1,c1,y1,ys1,-,rfl,-⟩:=h.open
   refine j00 Tryz.func71 rfl rfl rfl ?_
   repeat' ((conv=>whnf);first|refine j02 hk rfl rfl rfl rfl rfl rfl rfl ?_)
   all_goals (try (conv=>whnf))
   all_goals exact ⟨rfl,rfl⟩
 rcases j0Z q1 with ⟨a1,a2,a3⟩|⟨a1,a2,a3⟩
 rotate_left
 ·cases a3
 subst a2
 have hk:=j7f cs tot l a1 h1 ht
 have hkd:1 ≤ t.kind∧t.kind ≤ 7:=by
  obtain ⟨k,n,s,ls,ts⟩:=t
  exact (j0q hs).1
 obtain e|e|e|e|e|e|e:t.kind=1∨t.kind=2∨t.kind=3∨t.kind=4∨t.kind=5∨t.kind=6∨t.kind=7:=by omega
 ·exact jhQ E W T ctx cv hc t v h hs l hk e r l' q2
 ·exact jfH E W T ctx cv hc t v h hs l hk e r l' q2
 ·exact jdz E W T hE ctx cv hc t v h hs l hk e r l' q2
 ·exact jiA E W T hW hT fW fT ctx cv hc t v h hs l a1 h1 hk e r l' q2
 ·exact jiY E W T hT fT ctx cv hc t v h hs l a1 h1 hk e r l' q2
 ·exact jk6 E W T (jdd ht hW hT fW fT) (j4O fW fT) ctx cv hc t v h hs l a1 h1 hk e r l' q2
 ·exact jhK E W T hT ctx cv hc t v h hs l a1 h1 hk e r l' q2
end Go.Proofs.YtljnahbgfmflaaaGreatDoor

/-
  Closed terms that the law of errors reads. No statement of the seat.
-/
import Derived.Test.YtljnahbgfmflaaaGreatDoorZIs
import Derived.Test.YtljnahbgfmflaaaGreatDoorZQd
import Derived.Test.YtljnahbgfmflaaaGreatDoorZRb
set_option linter.unusedVariables false
set_option maxHeartbeats 4000000
set_option maxRecDepth 1000000
set_option linter.unusedSimpArgs false
set_option linter.unnecessarySimpa false
namespace Go.Proofs.YtljnahbgfmflaaaGreatDoor
open Go Go.Am Go.Gw
theorem jmc:isTm (ap (la_ tNat (ap (cq [102]) (vr 0))) (cq [107])) ((ev C1 60).call 22 [sv [40,40,92,32,110,97,116,32,40,102,32,35,48,41,41,32,107,41]] [])=true:=by kernel_rfl
theorem jmU:isTm (ap (la_ tNat (vr 0)) (cq [112])) ((ev C1 60).call 22 [sv [40,40,92,32,110,97,116,32,35,48,41,32,112,41]] [])=true:=by kernel_rfl
theorem jns:isTm (pi_ tNat (ap (cq [113]) (vr 0))) ((ev C1 60).call 22 [sv [40,62,32,110,97,116,32,40,113,32,35,48,41,41]] [])=true:=by kernel_rfl
theorem jni:isTm (cq [104]) ((ev C1 60).call 22 [sv [104]] [])=true:=by kernel_rfl
theorem jmC:isTm (cq [112]) ((ev C1 60).call 22 [sv [112]] [])=true:=by kernel_rfl
theorem jmb:isTm (ap (cq [113]) (cq [107])) ((ev C1 60).call 22 [sv [40,113,32,107,41]] [])=true:=by kernel_rfl
theorem jgl:isTm (tNat) ((ev C1 60).call 22 [sv [110,97,116]] [])=true:=by kernel_rfl
theorem jmE:isTm (ap (cq [113]) (vr 0)) ((ev C1 60).call 22 [sv [40,113,32,35,48,41]] [])=true:=by kernel_rfl
theorem jmw:isTm (cq [107]) ((ev C1 60).call 22 [sv [107]] [])=true:=by kernel_rfl
open Go Go.Am Go.Gw
section
variable {E:Nv} {cs:List PV} {tot:Int} {n:Nat} {I:List Tm→Tm→M Tm}
theorem jiX (x:Lv) (v:PV) (h:LvP x v):Pf C1 51 [v,iv 4] [bv (j0w x 4)]:=j2c x v h 4
theorem jop (hE:NvP E (.cp cs)) (ht:tot ≤ 1048576) (hI:jan cs tot I) (fI:∀ c t,Fine (I c t)) (ctx:List Tm) (cv:PV) (hc:CtxP ctx cv) (t:Tm) (v:PV) (h:TmP t v) (hs:shT t=true) (hk:t.kind=6) (l:Int) (r:Except Int Tm) (l':Int) (h0:0 ≤ l) (h1:l ≤ tot) (hx:ipiB E n I ctx t l=some (r,l')):IrT 92 [xI,cv,v] cs tot l r l':=by
 have hc':=hc
 obtain ⟨b,z,xs,rfl,-⟩:=hc'
 obtain ⟨n1,s1,b1,z1,x1,c1,y1,ys1,rfl,hy1,hkid⟩:=kids h hs
 obtain ⟨a0,ha0,p0,i0⟩:=hkid 0 (by rw [hk]; decide)
 obtain ⟨a1,ha1,p1,i1⟩:=hkid 1 (by rw [hk]; decide)
 have p0':=p0
 have p1':=p1
 obtain ⟨k2,n2,s2,l2,t2,b2,z2,x2,c2,y2,ys2,-,rfl,-⟩:=p0'.open
 obtain ⟨k3,n3,s3,l3,t3,b3,z3,x3,c3,y3,ys3,-,rfl,-⟩:=p1'.open
 unfold ipiB at hx
 rcases j0d hx with ⟨e,q1,rfl⟩|⟨lv,la,q1,q2⟩
 ·obtain ⟨he,hf⟩:=j2x hE ht hI fI ctx _ hc _ _ p0 i0 l _ l' h0 h1 q1
  refine ⟨he,?_⟩
  refine j00 Tryz.func92 rfl rfl rfl ?_
  repeat' ((conv=>whnf);first|apply gN|refine gB ?_|apply gO|apply gQ|refine j03 rfl rfl ?_|refine VIdx.mk _ ha0 ?_|refine VOk.mk (j07 rfl hy1) ?_|refine j02 hf rfl rfl rfl rfl rfl rfl rfl ?_)
  all_goals (try (conv=>whnf))
  all_goals first|exact ⟨rfl,rfl⟩|(exfalso; omega)|contradiction
 obtain ⟨wy,hwy,hf⟩:=j2x hE ht hI fI ctx _ hc _ _ p0 i0 l _ la h0 h1 q1
 have hla:=(j2p (E:=E) (n:=n) fI ctx (t.arg 0)).dn l _ la h0 q1
 have hwy':=hwy
 obtain ⟨k4,n4,l4,b4,z4,x4,-,rfl,-⟩:=hwy'.open
 rcases j0d q2 with ⟨e,q3,rfl⟩|⟨mv,lc,q3,q6⟩
 ·rcases j0d q3 with ⟨e',q4,e2⟩|⟨y,lb,q4,q5⟩
  ·cases e2
   obtain ⟨he,hw⟩:=j5a hI ctx _ hc _ _ p0 i0 _ _ p1 i1 la _ l' (by omega) (by omega) q4
   have hg:=j7E cs tot l' 0 0 [] true 0 [] true 0 [] e he
   refine ⟨he,?_⟩
   refine j00 Tryz.func92 rfl rfl rfl ?_
   repeat' ((conv=>whnf);first|apply gF|apply gN|refine gB ?_|apply gO|apply gQ|refine j03 rfl rfl ?_|refine VIdx.mk _ ha0 ?_|refine VIdx.mk _ ha1 ?_|refine VOk.mk (j07 rfl hy1) ?_|refine j02 hf rfl rfl rfl rfl rfl rfl rfl ?_|refine j02 hw rfl rfl rfl rfl rfl rfl rfl ?_|refine j02 hg rfl rfl rfl rfl rfl rfl rfl ?_|apply gK)
   all_goals (try (conv=>whnf))
   all_goals first|exact ⟨rfl,rfl⟩|(exfalso; omega)|contradiction
  ·obtain ⟨-,wb,hwb,hw⟩:=j5a hI ctx _ hc _ _ p0 i0 _ _ p1 i1 la _ lb (by omega) (by omega) q4
   have hlb:=(j5n fI ctx (t.arg 0) (t.arg 1)).dn la _ lb (by omega) q4
   obtain ⟨he,hg⟩:=j3Z E cs hE tot ht n y _ hwb lb _ l' (by omega) (by omega) q5
   obtain ⟨k5,n5,s5,l5,t5,b5,z5,x5,c5,y5,ys5,-,rfl,-⟩:=hwb.open
   refine ⟨he,?_⟩
   refine j00 Tryz.func92 rfl rfl rfl ?_
   repeat' ((conv=>whnf);first|apply gF|apply gN|refine gB ?_|apply gO|apply gQ|refine j03 rfl rfl ?_|refine VIdx.mk _ ha0 ?_|refine VIdx.mk _ ha1 ?_|refine VOk.mk (j07 rfl hy1) ?_|refine j02 hf rfl rfl rfl rfl rfl rfl rfl ?_|refine j02 hw rfl rfl rfl rfl rfl rfl rfl ?_|refine j02 hg rfl rfl rfl rfl rfl rfl rfl ?_|apply gK)
   all_goals (try (conv=>whnf))
   all_goals first|exact ⟨rfl,rfl⟩|(exfalso; omega)|contradiction
 rcases j0d q3 with ⟨e',q4,e2⟩|⟨y,lb,q4,q5⟩
 ·cases e2
 obtain ⟨-,wb,hwb,hw⟩:=j5a hI ctx _ hc _ _ p0 i0 _ _ p1 i1 la _ lb (by omega) (by omega) q4
 have hlb:=(j5n fI ctx (t.arg 0) (t.arg 1)).dn la _ lb (by omega) q4
 obtain ⟨wm,hwm,hg⟩:=j3Z E cs hE tot ht n y _ hwb lb _ lc (by omega) (by omega) q5
 obtain ⟨k5,n5,s5,l5,t5,b5,z5,x5,c5,y5,ys5,-,rfl,-⟩:=hwb.open
 have hM:=jdV lv _ hwy mv _ hwm
 have hsu:LvP (j7I lv mv) (encL (j7I lv mv)):=by
  unfold j7I
  split
  ·exact j8V (by simp) (by simp)
  ·split
   ·exact hwm.w
   ·exact j8V (by simp) (fun x hx=>by
     rcases List.mem_cons.1 hx with rfl|hx
     ·exact hwy.w
     ·rw [List.mem_singleton.1 hx]
      exact hwm.w)
 generalize j7I lv mv=q at *
 have hR:=jiX q _ hsu
 have hso:=jcW q _ hsu
 have hsv:=jcg hsu
 obtain ⟨k7,n7,b7,z7,x7,he7⟩:=j0y q
 unfold jiV at hso hsv
 obtain ⟨k6,n6,l6,b6,z6,x6,-,rfl,-⟩:=hwm.open
 rw [he7] at hM hR hso hsv
 rcases j0d q6 with ⟨e,q7,rfl⟩|⟨y9,ld,q7,q8⟩
 ·unfold j5S at q7
  cases hr:j0w q 4 with
  |true =>
   rw [hr] at q7
   cases q7
  |false =>
   rw [hr] at q7 hR
   cases q7
   refine ⟨by omega,?_⟩
   refine j00 Tryz.func92 rfl rfl rfl ?_
   repeat' ((conv=>whnf);first|apply gT|apply gF|apply gO|apply gQ|refine j03 rfl rfl ?_|refine VIdx.mk _ ha0 ?_|refine VIdx.mk _ ha1 ?_|refine VOk.mk (j07 rfl hy1) ?_|refine j02 hf rfl rfl rfl rfl rfl rfl rfl ?_|refine j02 hw rfl rfl rfl rfl rfl rfl rfl ?_|refine j02 hg rfl rfl rfl rfl rfl rfl rfl ?_|refine j01 hM rfl rfl ?_|refine j01 hR rfl rfl ?_|apply gK)
   all_goals (try (conv=>whnf))
   all_goals first|exact ⟨rfl,rfl⟩|(exfalso; omega)|contradiction
 ·unfold j5S at q7
  cases hr:j0w q 4 with
  |false =>
   rw [hr] at q7
   cases q7
  |true =>
   rw [hr] at q7 hR
   cases q7
   cases q8
   refine ⟨⟨jcC q,j8L hr⟩,_,hsv,?_⟩
   refine j00 Tryz.func92 rfl rfl rfl ?_
   repeat' ((conv=>whnf);first|apply gF|apply gO|apply gQ|refine j03 rfl rfl ?_|refine VIdx.mk _ ha0 ?_|refine VIdx.mk _ ha1 ?_|refine VOk.mk (j07 rfl hy1) ?_|refine j02 hf rfl rfl rfl rfl rfl rfl rfl ?_|refine j02 hw rfl rfl rfl rfl rfl rfl rfl ?_|refine j02 hg rfl rfl rfl rfl rfl rfl rfl ?_|refine j01 hM rfl rfl ?_|refine j01 hR rfl rfl ?_|refine j01 hso rfl rfl ?_|apply gK)
   all_goals (try (conv=>whnf))
   all_goals first|exact ⟨rfl,rfl⟩|(exfalso; omega)|contradiction
theorem jno (hE:NvP E (.cp cs)) (ht:tot ≤ 1048576) (hI:jan cs tot I) (fI:∀ c t,Fine (I c t)) (ctx:List Tm) (cv:PV) (hc:CtxP ctx cv) (t:Tm) (v:PV) (h:TmP t v) (hs:shT t=true) (hk:t.kind=7) (l:Int) (r:Except Int Tm) (l':Int) (h0:0 ≤ l) (h1:l ≤ tot) (hx:jpa E n I ctx t l=some (r,l')):IrT 93 [xI,cv,v] cs tot l r l':=by
 have hc':=hc
 obtain ⟨b,z,xs,rfl,-⟩:=hc'
 obtain ⟨n1,s1,b1,z1,x1,c1,y1,ys1,rfl,hy1,hkid⟩:=kids h hs
 obtain ⟨a0,ha0,p0,i0⟩:=hkid 0 (by rw [hk]; decide)
 obtain ⟨a1,ha1,p1,i1⟩:=hkid 1 (by rw [hk]; decide)
 obtain ⟨a2,ha2,p2,i2⟩:=hkid 2 (by rw [hk]; decide)
 have p0':=p0
 have p1':=p1
 have p2':=p2
 obtain ⟨k2,n2,s2,l2,t2,b2,z2,x2,c2,y2,ys2,-,rfl,-⟩:=p0'.open
 obtain ⟨k3,n3,s3,l3,t3,b3,z3,x3,c3,y3,ys3,-,rfl,-⟩:=p1'.open
 obtain ⟨k5,n5,s5,l5,t5,b5,z5,x5,c5,y5,ys5,-,rfl,-⟩:=p2'.open
 unfold jpa at hx
 rcases j0d hx with ⟨e,q1,rfl⟩|⟨lv,la,q1,q2⟩
 ·obtain ⟨he,hf⟩:=j2x hE ht hI fI ctx _ hc _ _ p0 i0 l _ l' h0 h1 q1
  refine ⟨he,?_⟩
  refine j00 Tryz.func93 rfl rfl rfl ?_
  repeat' ((conv=>whnf);first|apply gN|refine gB ?_|apply gO|apply gQ|refine j03 rfl rfl ?_|refine VIdx.mk _ ha0 ?_|refine VOk.mk (j07 rfl hy1) ?_|refine j02 hf rfl rfl rfl rfl rfl rfl rfl ?_)
  all_goals (try (conv=>whnf))
  all_goals first|exact ⟨rfl,rfl⟩|(exfalso; omega)|contradiction
 obtain ⟨wy,hwy,hf⟩:=j2x hE ht hI fI ctx _ hc _ _ p0 i0 l _ la h0 h1 q1
 have hla:=(j2p (E:=E) (n:=n) fI ctx (t.arg 0)).dn l _ la h0 q1
 obtain ⟨k4,n4,l4,b4,z4,x4,-,rfl,-⟩:=hwy.open
 rcases j0d q2 with ⟨e,q3,rfl⟩|⟨u0,lb,q3,q4⟩
 ·obtain ⟨he,hch⟩:=j5C hE ht hI fI ctx _ hc _ _ p1 i1 _ _ p0 la _ l' (by omega) (by omega) q3
  refine ⟨he,?_⟩
  refine j00 Tryz.func93 rfl rfl rfl ?_
  repeat' ((conv=>whnf);first|apply gF|apply gN|refine gB ?_|apply gO|apply gQ|refine j03 rfl rfl ?_|refine VIdx.mk _ ha0 ?_|refine VIdx.mk _ ha1 ?_|refine VOk.mk (j07 rfl hy1) ?_|refine j02 hf rfl rfl rfl rfl rfl rfl rfl ?_|refine j02 hch rfl rfl rfl rfl rfl rfl rfl ?_|apply gK)
  all_goals (try (conv=>whnf))
  all_goals first|exact ⟨rfl,rfl⟩|(exfalso; omega)|contradiction
 have hch:Fr _ _ _ _ _ (.ret [iv 0]) lb:=j5C hE ht hI fI ctx _ hc _ _ p1 i1 _ _ p0 la _ lb (by omega) (by omega) q3
 have hlb:=(j7C (E:=E) (n:=n) fI ctx (t.arg 1) (t.arg 0)).dn la _ lb (by omega) q3
 have hN:=j5r _ _ p2 [t.arg 1] true 5 _ (.inl rfl) ⟨_,[],rfl,p1,rfl⟩ (by simp)
 have hoW:TmW ((InstF (t.arg 2) [t.arg 1]).getD tz):=j5Q fun x hx=>j7S (by simpa using p1.w) p2.w hx
 rw [j4r] at hN
 have hoS:∀ x,InstF (t.arg 2) [t.arg 1]=some x→shT x=true:=fun x hx=>j5v hx
 generalize InstF (t.arg 2) [t.arg 1]=o at *
 unfold TmW at hoW
 obtain ⟨k9,n9,s9,b9,z9,x9,c9,y9,ys9,he9⟩:=j0a (o.getD tz)
 rw [he9] at hN hoW
 rcases j0d q4 with ⟨e,q5,rfl⟩|⟨y,lc,q5,q6⟩
 ·obtain ⟨rfl,rfl,hfi⟩:=j6M o _ hoW q5
  refine ⟨by omega,?_⟩
  refine j00 Tryz.func93 rfl rfl rfl ?_
  repeat' ((conv=>whnf);first|apply gT|apply gF|apply gO|apply gP|apply gQ|refine j03 rfl rfl ?_|refine VIdx.mk _ ha0 ?_|refine VIdx.mk _ ha1 ?_|refine VIdx.mk _ ha2 ?_|refine VOk.mk (j07 rfl hy1) ?_|refine j02 hf rfl rfl rfl rfl rfl rfl rfl ?_|refine j02 hch rfl rfl rfl rfl rfl rfl rfl ?_|refine j05 hN (fun _=>?_)|refine j05 hfi (fun _=>?_)|apply gK)
  all_goals (try (conv=>whnf))
  all_goals first|exact ⟨rfl,rfl⟩|(exfalso; omega)|contradiction
 ·obtain ⟨rfl,rfl,hzy,hfi⟩:=j6M o _ hoW q5
  have hwy:TmP y (.ag [iv k9,iv n9,sv s9,.sl b9 z9 x9,.sl c9 y9 ys9]):=hoW
  have hg:=hI ctx _ hc _ _ hwy (hoS _ rfl) lc r l' (by omega) (by omega) q6
  cases r with
  |error e =>
   obtain ⟨he,hg⟩:=hg
   refine ⟨he,?_⟩
   refine j00 Tryz.func93 rfl rfl rfl ?_
   repeat' ((conv=>whnf);first|apply gF|apply gO|apply gP|apply gQ|refine j03 rfl rfl ?_|refine VIdx.mk _ ha0 ?_|refine VIdx.mk _ ha1 ?_|refine VIdx.mk _ ha2 ?_|refine VOk.mk (j07 rfl hy1) ?_|refine j02 hf rfl rfl rfl rfl rfl rfl rfl ?_|refine j02 hch rfl rfl rfl rfl rfl rfl rfl ?_|refine j05 hN (fun _=>?_)|refine j05 hfi (fun _=>?_)|refine j02 hg rfl rfl rfl rfl rfl rfl rfl ?_|apply gK)
   all_goals (try (conv=>whnf))
   all_goals first|exact ⟨rfl,rfl⟩|(exfalso; omega)|contradiction
  |ok x =>
   obtain ⟨g1,wx,hwx,hg⟩:=hg
   refine ⟨g1,_,hwx,?_⟩
   obtain ⟨k6,n6,s6,l6,t6,b6,z6,x6,c6,y6,ys6,-,rfl,-⟩:=hwx.open
   refine j00 Tryz.func93 rfl rfl rfl ?_
   repeat' ((conv=>whnf);first|apply gF|apply gO|apply gP|apply gQ|refine j03 rfl rfl ?_|refine VIdx.mk _ ha0 ?_|refine VIdx.mk _ ha1 ?_|refine VIdx.mk _ ha2 ?_|refine VOk.mk (j07 rfl hy1) ?_|refine j02 hf rfl rfl rfl rfl rfl rfl rfl ?_|refine j02 hch rfl rfl rfl rfl rfl rfl rfl ?_|refine j05 hN (fun _=>?_)|refine j05 hfi (fun _=>?_)|refine j02 hg rfl rfl rfl rfl rfl rfl rfl ?_|apply gK)
   all_goals (try (conv=>whnf))
   all_goals first|exact ⟨rfl,rfl⟩|(exfalso; omega)|contradiction
theorem IrT.via {f g:FuncId} {args args' cs:List PV} {tot l l0:Int} {r:Except Int Tm} {l':Int} (h:IrT f args cs tot l r l') (ho:∀ (k9 n9:Int) (s9:List UInt8) (b9:Bool) (z9:Nat) (x9:List PV) (c9:Bool) (y9:Nat) (ys9:List PV) (e:Int),Fr f args cs tot l (.ret [.ag [iv k9,iv n9,sv s9,.sl b9 z9 x9,.sl c9 y9 ys9],iv e]) l'→Fr g args' cs tot l0 (.ret [.ag [iv k9,iv n9,sv s9,.sl b9 z9 x9,.sl c9 y9 ys9],iv e]) l'):IrT g args' cs tot l0 r l':=by
 cases r with
 |error e =>
  obtain ⟨he,hg⟩:=h
  exact ⟨he,ho _ _ _ _ _ _ _ _ _ _ hg⟩
 |ok x =>
  obtain ⟨g1,wx,hwx,hg⟩:=h
  have hwx':=hwx
  obtain ⟨k6,n6,s6,l6,t6,b6,z6,x6,c6,y6,ys6,-,rfl,-⟩:=hwx'.open
  exact ⟨g1,_,hwx,ho _ _ _ _ _ _ _ _ _ _ hg⟩
theorem jhE (hE:NvP E (.cp cs)) (ht:tot ≤ 1048576) (hI:jan cs tot I) (fI:∀ c t,Fine (I c t)):jan cs tot (jjF E n I):=by
 intro ctx cv hc t v h hs l r l' h0 h1 hx
 have hc':=hc
 obtain ⟨b,z,xs,rfl,hz,hxs,h64,-⟩:=hc'
 have h':=h
 have hr:=j6h cs tot l
 obtain ⟨k1,n1,s1,l1,t1,b1,z1,x1,c1,y1,ys1,et,rfl,-⟩:=h'.open
 have ek:t.kind=k1:=by subst et; rfl
 clear et
 unfold jjF at hx
 rcases j0d hx with ⟨e,q1,rfl⟩|⟨u0,la,q1,q2⟩
 ·rcases j0Z q1 with ⟨a1,a2,a3⟩|⟨a1,a2,a3⟩
  ·cases a3
  cases a3
  subst a2
  have hk:=jcJ cs tot l' a1
  refine ⟨by omega,?_⟩
  refine j00 Tryz.func63 rfl rfl rfl ?_
  repeat' ((conv=>whnf);first|apply gT|apply gO|refine j03 rfl rfl ?_|refine j02 hr rfl rfl rfl rfl rfl rfl rfl ?_|refine j02 hk rfl rfl rfl rfl rfl rfl rfl ?_)
  all_goals (try (conv=>whnf))
  all_goals first|exact ⟨rfl,rfl⟩|(exfalso; omega)|contradiction
 rcases j0Z q1 with ⟨a1,a2,a3⟩|⟨a1,a2,a3⟩
 rotate_left
 ·cases a3
 subst a2
 have hk:=jci cs tot l a1 h1 ht
 unfold jhl at q2
 rw [ek] at q2
 split at q2
 ·have hg:=jmO hE ht hI fI ctx _ hc t _ h hs (by omega) (l - 1) r l' (by omega) (by omega) q2
  refine IrT.via hg fun k9 n9 s9 b9 z9 x9 c9 y9 ys9 e hg=>?_
  refine j00 Tryz.func63 rfl rfl rfl ?_
  repeat' ((conv=>whnf);first|apply gF|refine gA ?_|apply gO|refine j03 rfl rfl ?_|refine j02 hr rfl rfl rfl rfl rfl rfl rfl ?_|refine j02 hk rfl rfl rfl rfl rfl rfl rfl ?_|refine j02 hg rfl rfl rfl rfl rfl rfl rfl ?_)
  all_goals (try (conv=>whnf))
  all_goals first|exact ⟨rfl,rfl⟩|(exfalso; omega)|contradiction
 split at q2
 ·have hg:=jny hE ht hI fI ctx _ hc t _ h hs (by omega) (l - 1) r l' (by omega) (by omega) q2
  refine IrT.via hg fun k9 n9 s9 b9 z9 x9 c9 y9 ys9 e hg=>?_
  refine j00 Tryz.func63 rfl rfl rfl ?_
  repeat' ((conv=>whnf);first|apply gF|refine gA ?_|refine gB ?_|apply gO|refine j03 rfl rfl ?_|refine j02 hr rfl rfl rfl rfl rfl rfl rfl ?_|refine j02 hk rfl rfl rfl rfl rfl rfl rfl ?_|refine j02 hg rfl rfl rfl rfl rfl rfl rfl ?_)
  all_goals (try (conv=>whnf))
  all_goals first|exact ⟨rfl,rfl⟩|(exfalso; omega)|contradiction
 split at q2
 ·have hg:=jop hE ht hI fI ctx _ hc t _ h hs (by omega) (l - 1) r l' (by omega) (by omega) q2
  refine IrT.via hg fun k9 n9 s9 b9 z9 x9 c9 y9 ys9 e hg=>?_
  refine j00 Tryz.func63 rfl rfl rfl ?_
  repeat' ((conv=>whnf);first|apply gF|refine gA ?_|refine gB ?_|apply gO|refine j03 rfl rfl ?_|refine j02 hr rfl rfl rfl rfl rfl rfl rfl ?_|refine j02 hk rfl rfl rfl rfl rfl rfl rfl ?_|refine j02 hg rfl rfl rfl rfl rfl rfl rfl ?_)
  all_goals (try (conv=>whnf))
  all_goals first|exact ⟨rfl,rfl⟩|(exfalso; omega)|contradiction
 split at q2
 ·have hg:=jno hE ht hI fI ctx _ hc t _ h hs (by omega) (l - 1) r l' (by omega) (by omega) q2
  refine IrT.via hg fun k9 n9 s9 b9 z9 x9 c9 y9 ys9 e hg=>?_
  refine j00 Tryz.func63 rfl rfl rfl ?_
  repeat' ((conv=>whnf);first|apply gF|refine gA ?_|refine gB ?_|apply gO|refine j03 rfl rfl ?_|refine j02 hr rfl rfl rfl rfl rfl rfl rfl ?_|refine j02 hk rfl rfl rfl rfl rfl rfl rfl ?_|refine j02 hg rfl rfl rfl rfl rfl rfl rfl ?_)
  all_goals (try (conv=>whnf))
  all_goals first|exact ⟨rfl,rfl⟩|(exfalso; omega)|contradiction
 ·have hg:IrT 32 [.ci [.bp 0 0],.sl b z xs,.ag [iv k1,iv n1,sv s1,.sl b1 z1 x1,.sl c1 y1 ys1]] cs tot (l - 1) r l':=by
   obtain ⟨g1,g2⟩:=jlH E cs hE tot ht n ctx b z xs hz hxs (by omega) t _ h (l - 1) r l' (by omega) (by omega) q2
   cases r with
   |error e=>exact ⟨fun e0=>by
     subst e0
     exact (jaH (E:=E) (n:=n) ctx t).nz _ _ q2,g2⟩
   |ok x=>exact ⟨⟨(g1 x rfl).1,(g1 x rfl).2.1⟩,_,(g1 x rfl).2.2,g2⟩
  refine IrT.via hg fun k9 n9 s9 b9 z9 x9 c9 y9 ys9 e hg=>?_
  refine j00 Tryz.func63 rfl rfl rfl ?_
  repeat' ((conv=>whnf);first|apply gF|refine gB ?_|apply gO|refine j03 rfl rfl ?_|refine j02 hr rfl rfl rfl rfl rfl rfl rfl ?_|refine j02 hk rfl rfl rfl rfl rfl rfl rfl ?_|refine j02 hg rfl rfl rfl rfl rfl rfl rfl ?_|apply gK)
  all_goals (try (conv=>whnf))
  all_goals first|exact ⟨rfl,rfl⟩|(exfalso; omega)|contradiction
theorem I_ok (hE:NvP E (.cp cs)) (ht:tot ≤ 1048576):∀ n,jan cs tot (jhc E n)
 |0=>fun _ _ _ _ _ _ _ _ _ _ _ _ h=>by cases h
 |n + 1=>jhE (n:=n) hE ht (I_ok hE ht n) (j2U n)
end
open Go Go.Am Go.Gw
theorem jqG {x y:Operand}:j0l C1.P .eql 22 x y (.sl true 0 []) (.sl true 0 [])=some (bv true):=by kernel_rfl
theorem jqN {x y:Operand} {b:Bool} {z:Nat} {c:PV} {cs:List PV}:j0l C1.P .eql 22 x y (.sl b z (c :: cs)) (.sl true 0 [])=some (bv false):=by kernel_rfl
def CtxN (ctx:List Tm) (v:PV):Prop:=∃ b z xs,v = .sl b z xs∧((z=5∧¬ xs=[])∨(xs=[]∧b=true∧z=0))∧TmsP ctx xs∧ctx.length ≤ 1759218604441
theorem jil (xs:List PV) (b:Bool) (z:Nat) (hz:(z=5∧¬ xs=[])∨(xs=[]∧b=true∧z=0)) (hp6:xs.all (pur 6)=true) (hl:xs.length ≤ 64):∃ b':Bool,(xs=[]→b'=true)∧Pf C1 64 [.sl b z xs] [.sl b' z xs]:=by
 cases xs with
 |nil =>
  obtain ⟨rfl,rfl⟩:b=true∧z=0:=by
   rcases hz with ⟨-,h⟩|h
   ·exact absurd rfl h
   ·exact h.2
  refine ⟨true,fun _=>rfl,?_⟩
  refine j00 Tryz.func64 rfl rfl rfl ?_
  repeat' ((conv=>whnf);first|apply gT|refine j04 rfl ?_|refine VRes.mk _ jqG ?_)
  all_goals (try (conv=>whnf))
  all_goals rfl
 |cons s r =>
  obtain rfl:z=5:=by
   rcases hz with h|h
   ·exact h.1
   ·exact absurd h.1 (by simp)
  refine ⟨false,fun e=>(by cases e),?_⟩
  refine j00 Tryz.func64 rfl rfl rfl ?_
  repeat' ((conv=>whnf);first|apply gF|apply gO|refine VRes.mk _ jqN ?_|refine VOk.mk (jcv (w:=80) (r:=140737488355328) rfl rfl (by simp at hl ⊢; omega) (by simp at hl ⊢; omega)) ?_)
  all_goals (try (conv=>whnf))
  exact j0s rfl (j08 (j0E rfl (by simp) hp6) j0n) rfl rfl
theorem jb7 (ctx:List Tm) (t:Tm):j1h ctx [t]=(j1h ctx [] && j0L t 4 ctx.length):=by
 unfold j1h
 simp [Bool.and_assoc]
def IxT (f:FuncId) (args cs:List PV) (tot l:Int) (r:Except Int Tm) (l':Int):Prop:=(∀ x,r = .ok x→shT x=true∧sizT x ≤ 2000∧TmW x)∧(∀ e,r = .error e→¬ e=0)∧Fr f args cs tot l (.ret (errV r)) l'
def IxL (f:FuncId) (args cs:List PV) (tot l:Int) (r:Except Int Lv) (l':Int):Prop:=(∀ x,r = .ok x→LvP x (encL x))∧(∀ e,r = .error e→¬ e=0)∧Fr f args cs tot l (.ret (errL r)) l'
section
variable {E:Nv} {cs:List PV} {tot:Int} {n:Nat}
theorem j2D (hE:NvP E (.cp cs)) (ht:tot ≤ 1048576) (ctx:List Tm) (cv:PV) (hc:CtxN ctx cv) (t:Tm) (v:PV) (h:TmP t v) (l:Int) (r:Except Int Tm) (l':Int) (h0:0 ≤ l) (h1:l ≤ tot) (hx:j3j E n ctx t l=some (r,l')):IxT 26 [xI,cv,v] cs tot l r l':=by
 obtain ⟨b,z,xs,rfl,hz,hxs,hbd⟩:=hc
 have hlen:=hxs.len
 have hfo:=j9M ctx b z xs (hz.imp (·.1) (·.1)) hxs
 have hri:=jaL t v h b z xs ctx.length hlen
 have hv:=h
 obtain ⟨k1,n1,s1,l1,t1,b1,z1,x1,c1,y1,ys1,-,rfl,-⟩:=h.open
 unfold j3j at hx
 rw [jb7] at hx
 rcases j0d hx with ⟨e,q1,rfl⟩|⟨u0,la,q1,q2⟩
 ·obtain ⟨rfl,d2⟩:=j1o q1
  rcases d2 with ⟨-,d2⟩|⟨d1,d2⟩
  ·cases d2
  cases d2
  refine ⟨fun x hx=>(by cases hx),fun e he=>(by cases he; omega),?_⟩
  cases hf:j1h ctx [] with
  |false =>
   rw [hf] at hfo
   refine j00 Tryz.func26 rfl rfl rfl ?_
   repeat' ((conv=>whnf);first|apply gT|apply gO|refine j03 rfl rfl ?_|refine j01 hfo rfl rfl ?_)
   all_goals (try (conv=>whnf))
   all_goals first|exact ⟨rfl,rfl⟩|(exfalso; omega)|contradiction
  |true =>
   rw [hf] at hfo d1
   have d1:j0L t 4 ctx.length=false:=d1
   rw [d1] at hri
   refine j00 Tryz.func26 rfl rfl rfl ?_
   repeat' ((conv=>whnf);first|apply gT|apply gF|apply gO|refine j03 rfl rfl ?_|refine j01 hfo rfl rfl ?_|refine j01 hri rfl rfl ?_)
   all_goals (try (conv=>whnf))
   all_goals first|exact ⟨rfl,rfl⟩|(exfalso; omega)|contradiction
 obtain ⟨rfl,d2⟩:=j1o q1
 rcases d2 with ⟨d1,-⟩|⟨-,d2⟩
 rotate_left
 ·cases d2
 have hfm:j1h ctx [t]=true:=by rw [jb7]; exact d1
 obtain ⟨hcp,hsh⟩:=j2K hfm (hz.imp (·.1) id) hxs
 have hcp':=hcp
 obtain ⟨b3,z3,xs3,e3,hz3,hxs3,h64,hsh3⟩:=hcp'
 obtain ⟨b2,hb2,hcl⟩:=jil xs b z hz hxs.pure6 (by omega)
 have hc2:CtxP ctx (.sl b2 z xs):=⟨_,_,_,rfl,hz.imp (·.1) (fun q=>⟨q.1,hb2 q.1,q.2.2⟩),hxs,h64,hsh3⟩
 rw [Bool.and_eq_true] at d1
 rw [d1.1] at hfo
 rw [d1.2] at hri
 have hg:=I_ok hE ht n ctx _ hc2 t _ hv (hsh t (List.mem_singleton.2 rfl)).1 la r l' h0 h1 q2
 cases r with
 |error e =>
  obtain ⟨he,hg⟩:=hg
  have ha:Pf C1 65 [.ag zTm,.sl true 0 []] [.ag zTm]:=j4L tz _ j5i true 0
  refine ⟨fun x hx=>(by cases hx),fun e he'=>(by cases he'; exact he),?_⟩
  refine j00 Tryz.func26 rfl rfl rfl ?_
  repeat' ((conv=>whnf);first|apply gF|apply gO|apply gP|refine j03 rfl rfl ?_|refine j01 hfo rfl rfl ?_|refine j01 hri rfl rfl ?_|refine j05 hcl (fun _=>?_)|refine j02 hg rfl rfl rfl rfl rfl rfl rfl ?_|refine j01 ha rfl rfl ?_|apply gK)
  all_goals (try (conv=>whnf))
  all_goals first|exact ⟨rfl,rfl⟩|(exfalso; omega)|contradiction
 |ok x =>
  obtain ⟨g1,w,hw,hg⟩:=hg
  have ha:=j4L x w hw true 0
  refine ⟨fun y hy=>(by cases hy; exact ⟨g1.1,g1.2,hw.w⟩),fun e he=>(by cases he),?_⟩
  simp only [errV]
  obtain ⟨k9,n9,s9,b9,z9,x9,c9,y9,ys9,he9⟩:=j0a x
  rw [he9] at ha ⊢
  obtain ⟨k2,n2,s2,l2,t2,b2',z2,x2,c2,y2,ys2,-,rfl,-⟩:=hw.open
  refine j00 Tryz.func26 rfl rfl rfl ?_
  repeat' ((conv=>whnf);first|apply gF|apply gO|apply gP|refine j03 rfl rfl ?_|refine j01 hfo rfl rfl ?_|refine j01 hri rfl rfl ?_|refine j05 hcl (fun _=>?_)|refine j02 hg rfl rfl rfl rfl rfl rfl rfl ?_|refine j01 ha rfl rfl ?_|apply gK)
  all_goals (try (conv=>whnf))
  all_goals first|exact ⟨rfl,rfl⟩|(exfalso; omega)|contradiction
theorem j9i (ctx:List Tm) (t:Tm):Fine (j3j E n ctx t):=j0b (j0W (by omega)) fun _=>j2U n ctx t
theorem jqz:LvP (.mk 0 0 []) (.ag zLv):=⟨true,0,[],rfl,.inr rfl,rfl,by simp⟩
theorem jlM (hE:NvP E (.cp cs)) (ht:tot ≤ 1048576) (ctx:List Tm) (cv:PV) (hc:CtxN ctx cv) (t:Tm) (v:PV) (h:TmP t v) (l:Int) (r:Except Int Lv) (l':Int) (h0:0 ≤ l) (h1:l ≤ tot) (hx:jnN E n ctx t l=some (r,l')):IxL 54 [xI,cv,v] cs tot l r l':=by
 have hc':=hc
 obtain ⟨b,z,xs,rfl,-⟩:=hc'
 have h':=h
 obtain ⟨k1,n1,s1,l1,t1,b1,z1,x1,c1,y1,ys1,-,rfl,-⟩:=h'.open
 have hm:Pf C1 49 [.sl true 3 [.ag zLv]] [.ag zLv]:=j6E _ _ jqz true 3 rfl
 rcases j0d hx with ⟨e,q1,rfl⟩|⟨x,la,q1,q2⟩
 ·obtain ⟨-,he,hf⟩:=j2D hE ht ctx _ hc t _ h l _ l' h0 h1 q1
  have he:=he _ rfl
  simp only [errV] at hf
  have hl:=j7E cs tot l' 0 0 [] true 0 [] true 0 [] e he
  refine ⟨fun x hx=>(by cases hx),fun e he'=>(by cases he'; exact he),?_⟩
  simp only [errL]
  refine j00 Tryz.func54 rfl rfl rfl ?_
  repeat' ((conv=>whnf);first|apply gO|refine j03 rfl rfl ?_|refine j02 hf rfl rfl rfl rfl rfl rfl rfl ?_|refine j02 hl rfl rfl rfl rfl rfl rfl rfl ?_|refine j01 hm rfl rfl ?_)
  all_goals (try (conv=>whnf))
  all_goals first|exact ⟨rfl,rfl⟩|(exfalso; omega)|contradiction
 ·obtain ⟨hw,-,hf⟩:=j2D hE ht ctx _ hc t _ h l _ la h0 h1 q1
  obtain ⟨-,-,hw⟩:=hw x rfl
  simp only [errV] at hf
  unfold TmW at hw
  generalize encT x=w at *
  have hla:=(j9i (E:=E) (n:=n) ctx t).dn l _ la h0 q1
  have hl:=j3Z E cs hE tot ht n x w hw la r l' (by omega) (by omega) q2
  obtain ⟨k2,n2,s2,l2,t2,b2,z2,x2,c2,y2,ys2,-,rfl,-⟩:=hw.open
  cases r with
  |error e =>
   obtain ⟨he,hl⟩:=hl
   refine ⟨fun x hx=>(by cases hx),fun e he'=>(by cases he'; exact he),?_⟩
   simp only [errL]
   refine j00 Tryz.func54 rfl rfl rfl ?_
   repeat' ((conv=>whnf);first|apply gO|refine j03 rfl rfl ?_|refine j02 hf rfl rfl rfl rfl rfl rfl rfl ?_|refine j02 hl rfl rfl rfl rfl rfl rfl rfl ?_|refine j01 hm rfl rfl ?_)
   all_goals (try (conv=>whnf))
   all_goals first|exact ⟨rfl,rfl⟩|(exfalso; omega)|contradiction
  |ok y =>
   obtain ⟨wy,hwy,hl⟩:=hl
   have hm:=j6E y _ hwy true 3 rfl
   refine ⟨fun y hy=>(by cases hy; exact jc0 _ _ hwy),fun e he=>(by cases he),?_⟩
   simp only [errL]
   obtain ⟨k9,n9,b9,z9,x9,he9⟩:=j0y y
   rw [he9] at hm ⊢
   obtain ⟨k4,n4,l4,b4,z4,x4,-,rfl,-⟩:=hwy.open
   refine j00 Tryz.func54 rfl rfl rfl ?_
   repeat' ((conv=>whnf);first|apply gO|refine j03 rfl rfl ?_|refine j02 hf rfl rfl rfl rfl rfl rfl rfl ?_|refine j02 hl rfl rfl rfl rfl rfl rfl rfl ?_|refine j01 hm rfl rfl ?_)
   all_goals (try (conv=>whnf))
   all_goals first|exact ⟨rfl,rfl⟩|(exfalso; omega)|contradiction
theorem jbs (hE:NvP E (.cp cs)) (ht:tot ≤ 1048576) (ctx:List Tm) (cv:PV) (hc:CtxN ctx cv) (t:Tm) (v:PV) (h:TmP t v) (u:Tm) (uv:PV) (hu:TmP u uv) (l:Int) (r:Except Int Unit) (l':Int) (h0:0 ≤ l) (h1:l ≤ tot) (hx:jfa E n ctx t u l=some (r,l')):IrU 55 [xI,cv,v,uv] cs tot l r l':=by
 have hc':=hc
 obtain ⟨b,z,xs,rfl,hz,hxs,hbd⟩:=hc'
 have h':=h
 have hu':=hu
 obtain ⟨k1,n1,s1,l1,t1,b1,z1,x1,c1,y1,ys1,-,rfl,-⟩:=h'.open
 obtain ⟨k2,n2,s2,l2,t2,b2,z2,x2,c2,y2,ys2,-,rfl,-⟩:=hu'.open
 rcases j0d hx with ⟨e,q1,rfl⟩|⟨a,la,q1,q2⟩
 ·obtain ⟨-,he,hf⟩:=j2D hE ht ctx _ hc t _ h l _ l' h0 h1 q1
  have he:=he _ rfl
  simp only [errV] at hf
  refine ⟨he,?_⟩
  refine j00 Tryz.func55 rfl rfl rfl ?_
  repeat' ((conv=>whnf);first|apply gN|refine gB ?_|apply gO|refine j03 rfl rfl ?_|refine j02 hf rfl rfl rfl rfl rfl rfl rfl ?_)
  all_goals (try (conv=>whnf))
  all_goals first|exact ⟨rfl,rfl⟩|(exfalso; omega)|contradiction
 obtain ⟨hw,-,hf⟩:=j2D hE ht ctx _ hc t _ h l _ la h0 h1 q1
 obtain ⟨-,-,hw⟩:=hw a rfl
 simp only [errV] at hf
 unfold TmW at hw
 have hla:=(j9i (E:=E) (n:=n) ctx t).dn l _ la h0 q1
 generalize encT a=w at *
 have hw':=hw
 obtain ⟨k3,n3,s3,l3,t3,b3,z3,x3,c3,y3,ys3,-,rfl,-⟩:=hw'.open
 rcases j0d q2 with ⟨e,q3,rfl⟩|⟨ok,lb,q3,q4⟩
 ·have he:¬ e=0:=fun e0=>by
   subst e0
   exact (j7l (E:=E) (n:=n) ctx a u).nz _ _ q3
  have hg:=j6V E cs hE tot ht n ctx b z xs (hz.imp (·.1) id) hxs hbd a _ hw u _ hu la _ l' (by omega) (by omega) q3
  simp only [errB] at hg
  refine ⟨he,?_⟩
  refine j00 Tryz.func55 rfl rfl rfl ?_
  repeat' ((conv=>whnf);first|apply gF|refine gB ?_|apply gO|refine j03 rfl rfl ?_|refine j02 hf rfl rfl rfl rfl rfl rfl rfl ?_|refine j02 hg rfl rfl rfl rfl rfl rfl rfl ?_|apply gK)
  all_goals (try (conv=>whnf))
  all_goals first|exact ⟨rfl,rfl⟩|(exfalso; omega)|contradiction
 have hg:=j6V E cs hE tot ht n ctx b z xs (hz.imp (·.1) id) hxs hbd a _ hw u _ hu la _ lb (by omega) (by omega) q3
 simp only [errB] at hg
 cases ok with
 |true =>
  cases q4
  show Fr _ _ _ _ _ (.ret [iv 0]) _
  refine j00 Tryz.func55 rfl rfl rfl ?_
  repeat' ((conv=>whnf);first|apply gT|apply gF|apply gO|refine j03 rfl rfl ?_|refine j02 hf rfl rfl rfl rfl rfl rfl rfl ?_|refine j02 hg rfl rfl rfl rfl rfl rfl rfl ?_|apply gK)
  all_goals (try (conv=>whnf))
  all_goals first|exact ⟨rfl,rfl⟩|(exfalso; omega)|contradiction
 |false =>
  cases q4
  refine ⟨by omega,?_⟩
  refine j00 Tryz.func55 rfl rfl rfl ?_
  repeat' ((conv=>whnf);first|apply gT|apply gF|apply gO|refine j03 rfl rfl ?_|refine j02 hf rfl rfl rfl rfl rfl rfl rfl ?_|refine j02 hg rfl rfl rfl rfl rfl rfl rfl ?_|apply gK)
  all_goals (try (conv=>whnf))
  all_goals first|exact ⟨rfl,rfl⟩|(exfalso; omega)|contradiction
end
open Go Go.Am Go.Gw
section
variable {E:Nv} {cs:List PV} {tot:Int} {n:Nat}
theorem jmJ {ctx:List Tm} {i:Nat} {t:Tm} (h:ctx[i]? = some t):ctx.take i ++ [t]=ctx.take (i + 1):=by
 rw [List.take_add_one,h]
 rfl
theorem j8X (hE:NvP E (.cp cs)) (ht:tot ≤ 1048576) (ctx:List Tm) (cv:PV) (hc:CtxN ctx cv) (l:Int) (r:Except Int Unit) (l':Int) (h0:0 ≤ l) (h1:l ≤ tot) (hx:j6B E n ctx l=some (r,l')):IrU 56 [xI,cv] cs tot l r l':=by
 obtain ⟨b,z,xs,rfl,hz,hxs,hbd⟩:=hc
 have hlen:=hxs.len
 have hz':z=5∨xs=[]:=hz.imp (·.1) (·.1)
 have hfo:=j9M ctx b z xs hz' hxs
 unfold j6B at hx
 rcases j0d hx with ⟨e,q1,rfl⟩|⟨u0,la,q1,q2⟩
 ·obtain ⟨rfl,d2⟩:=j1o q1
  rcases d2 with ⟨-,d2⟩|⟨d1,d2⟩
  ·cases d2
  cases d2
  rw [d1] at hfo
  refine ⟨by omega,?_⟩
  refine j00 Tryz.func56 rfl rfl rfl ?_
  repeat' ((conv=>whnf);first|apply gT|refine j03 rfl rfl ?_|refine j01 hfo rfl rfl ?_)
  all_goals (try (conv=>whnf))
  all_goals exact ⟨rfl,rfl⟩
 obtain ⟨rfl,d2⟩:=j1o q1
 rcases d2 with ⟨d1,-⟩|⟨-,d2⟩
 rotate_left
 ·cases d2
 rw [d1] at hfo
 obtain ⟨⟨-,-,-,-,-,-,h64,hsh⟩,-⟩:=j2K d1 (hz.imp (·.1) id) hxs
 have goal:Finds C1 56 [xI,.sl b z xs] [runB cs tot la] fun r' st'=>(match r with
  | .ok _=>r' = .ret [iv 0]
  | .error e=>¬ e=0∧r' = .ret [iv e])∧st'=[runB cs tot l']:=by
  refine j00 Tryz.func56 rfl rfl rfl ?_
  repeat' ((conv=>whnf);first|apply gF|refine j01 hfo rfl rfl ?_)
  all_goals (try (conv=>whnf))
  refine j09 (G:=Nat × Int) (fun g=>[(14,iv g.1)]) (fun g=>[runB cs tot g.2]) (fun g=>g.1 ≤ ctx.length∧0 ≤ g.2∧g.2 ≤ tot∧joZ E n (ctx.take g.1) (ctx.drop g.1) g.2=some (r,l')) (fun g=>ctx.length - g.1) (0,la) ⟨by omega,h0,h1,q2⟩ rfl rfl ?_
  rintro ⟨i,li⟩ ⟨hi,g0,g1,hall⟩
  dsimp only at hi g0 g1 hall ⊢
  repeat' ((conv=>whnf);first|apply gE<;>intro h|apply gQ|refine j03 rfl rfl ?_)
  all_goals (try (conv=>whnf))
  ·have hi':i < ctx.length:=by omega
   obtain ⟨tc,htc⟩:∃ tc,ctx[i]? = some tc:=⟨_,List.getElem?_eq_getElem hi'⟩
   obtain ⟨v,hv,hl⟩:=hxs.at htc
   have hle:(i.ble xs.length && Nat.ble 0 i)=true:=by simp only [Nat.ble_eq,Bool.and_eq_true]; omega
   have hle2:Nat.beq i i=true:=by simp
   have hz5:z=5:=by
    rcases hz with h|h
    ·exact h.1
    ·rw [h.1] at hlen
     simp only [List.length_nil] at hlen
     omega
   subst hz5
   have hcp:∀ b',CtxP (ctx.take i) (.sl b' 5 ((xs.take i).drop 0)):=fun b'=>⟨_,_,_,rfl,.inl rfl,hxs.take i,by simp; omega,fun t ht=>hsh t (List.mem_of_mem_take ht)⟩
   have hd:ctx.drop i=tc :: ctx.drop (i + 1):=drop_at htc
   rw [hd] at hall
   rcases j0d hall with ⟨e,w1,w2⟩|⟨u,lb,w1,w2⟩
   ·have hg:=fun b'=>j2x hE ht (I_ok hE ht n) (j2U n) (ctx.take i) _ (hcp b') tc v hl (hsh tc (List.mem_of_getElem? htc)) li _ l' g0 g1 w1
    subst w2
    obtain ⟨he,-⟩:=hg true
    have hg:=fun b'=>(hg b').2
    obtain ⟨k1,n1,s1,l1,t1,b1,z1,x1,c1,y1,ys1,-,rfl,-⟩:=hl.open
    repeat' ((conv=>whnf);first|apply gN|refine gB ?_|apply gO|apply gQ|refine j03 rfl rfl ?_|refine VIdx.mk _ hv ?_|refine VOk.mk hle ?_|refine VOk.mk hle2 ?_|refine j02 (hg _) rfl rfl rfl rfl rfl rfl rfl ?_|apply gK)
    all_goals (try (conv=>whnf))
    all_goals first|exact ⟨⟨he,rfl⟩,rfl⟩|exact absurd (by assumption) he
   ·have hg:=fun b'=>j2x hE ht (I_ok hE ht n) (j2U n) (ctx.take i) _ (hcp b') tc v hl (hsh tc (List.mem_of_getElem? htc)) li _ lb g0 g1 w1
    have hlb:=(j2p (E:=E) (n:=n) (j2U n) (ctx.take i) tc).dn li _ lb g0 w1
    rw [jmJ htc] at w2
    obtain ⟨k1,n1,s1,l1,t1,b1,z1,x1,c1,y1,ys1,-,rfl,-⟩:=hl.open
    obtain ⟨w,hw,hg⟩:=hg true
    obtain ⟨k4,n4,l4,b4,z4,x4,-,rfl,-⟩:=hw.open
    repeat' ((conv=>whnf);first|apply gF|apply gO|apply gQ|refine gV ?_|refine VIdx.mk _ hv ?_|refine VOk.mk hle ?_|refine VOk.mk hle2 ?_|refine j02 hg rfl rfl rfl rfl rfl rfl rfl ?_|apply gK)
    all_goals (try (conv=>whnf))
    exact VAgain.mk _ rfl _ (j0h rfl rfl rfl) ⟨(i + 1,lb),⟨hi',by omega,by omega,w2⟩,by dsimp only; omega,rfl⟩
  ·have hl:i=ctx.length:=by omega
   subst hl
   rw [List.drop_length] at hall
   cases hall
   exact ⟨rfl,rfl⟩
 cases r with
 |error e =>
  obtain ⟨r',st',⟨⟨he,rfl⟩,rfl⟩,N,hN⟩:=goal
  exact ⟨he,_,_,⟨rfl,rfl⟩,N,hN⟩
 |ok u=>exact goal
end
theorem j9t:∃ cs,NvP nv14 (.cp cs)∧∀ n:Int,0 ≤ n→n ≤ 1048576→Finds C1 25 [iv n] [] fun r st=>r = .ret [xI]∧st=[runB cs n n]:=by
 obtain ⟨ws,hws,hl⟩:=jj7
 obtain ⟨v,hv,ha⟩:=joS nv0 _ jqH jbO false ws hws (jgO jpq) (by decide)
 have hv':=hv
 obtain ⟨b,z,xs,rfl,-⟩:=hv'
 refine ⟨_,hv,fun n h0 h1=>?_⟩
 have he:=jiE
 have hw:=jfp [j5X (jbT nv0 jbO).tr,.sl b z xs] n h0 h1
 have hc:=jew [j5X (jbT nv0 jbO).tr,.sl b z xs] n n
 generalize j5X (jbT nv0 jbO).tr=tp at *
 refine j00 Tryz.func25 rfl rfl rfl ?_
 repeat' ((conv=>whnf);first|apply gF|refine j01 he rfl rfl ?_|refine j01 hl rfl rfl ?_|refine j01 ha rfl rfl ?_|refine jbW hw rfl rfl (j1K rfl ?_)|refine j02 hc rfl rfl rfl rfl rfl rfl rfl ?_)
 all_goals (try (conv=>whnf))
 show VRet C1 _ 0 [xI] [runB [tp,.sl b z xs] n n] _
 exact j1t (.inr ⟨rfl,rfl⟩) rfl rfl rfl ⟨rfl,rfl⟩
end Go.Proofs.YtljnahbgfmflaaaGreatDoor

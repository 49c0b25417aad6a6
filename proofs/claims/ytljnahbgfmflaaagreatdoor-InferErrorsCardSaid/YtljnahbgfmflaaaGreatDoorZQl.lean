/-
  Closed terms that the law of errors reads. No statement of the seat.
-/
import Derived.Test.YtljnahbgfmflaaaGreatDoorZQh
import Derived.Test.YtljnahbgfmflaaaGreatDoorZRb
set_option linter.unusedVariables false
set_option maxHeartbeats 8000000
set_option maxRecDepth 1000000
set_option linter.unusedSimpArgs false
set_option linter.unnecessarySimpa false
namespace Go.Proofs.YtljnahbgfmflaaaGreatDoor
open Go Go.Am Go.Gw
theorem jks:isTm (ap (cq [107]) (cq [107])) ((ev C1 60).call 22 [sv [40,107,32,107,41]] [])=true:=by kernel_rfl
theorem jl6:isTm (ap (cq [102]) (cq [112])) ((ev C1 60).call 22 [sv [40,102,32,112,41]] [])=true:=by kernel_rfl
theorem jjy:isTm (la_ (cq [107]) (vr 0)) ((ev C1 60).call 22 [sv [40,92,32,107,32,35,48,41]] [])=true:=by kernel_rfl
theorem jjI:isTm (pi_ (cq [107]) tNat) ((ev C1 60).call 22 [sv [40,62,32,107,32,110,97,116,41]] [])=true:=by kernel_rfl
theorem jki:isTm (.mk 7 0 [] [] [cq [107],cq [107],vr 0]) ((ev C1 60).call 22 [sv [40,61,32,107,32,107,32,35,48,41]] [])=true:=by kernel_rfl
theorem jjG:isTm (.mk 7 0 [] [] [tNat,cq [112],vr 0]) ((ev C1 60).call 22 [sv [40,61,32,110,97,116,32,112,32,35,48,41]] [])=true:=by kernel_rfl
theorem jk8:isTm (cq [98]) ((ev C1 60).call 22 [sv [98]] [])=true:=by kernel_rfl
theorem jk4:isTm (cl_ nNat l1) ((ev C1 60).call 22 [sv [40,64,32,110,97,116,32,49,41]] [])=true:=by kernel_rfl
theorem jkD:isTm (pi_ tNat (ap (cq [102]) (vr 0))) ((ev C1 60).call 22 [sv [40,62,32,110,97,116,32,40,102,32,35,48,41,41]] [])=true:=by kernel_rfl
theorem jjT:isTm (la_ tNat (ap (cq [113]) tNat)) ((ev C1 60).call 22 [sv [40,92,32,110,97,116,32,40,113,32,110,97,116,41,41]] [])=true:=by kernel_rfl
def wrongS:List (List UInt8):=[[40,107,32,107,41],[40,102,32,112,41],[40,92,32,107,32,35,48,41],[40,62,32,107,32,110,97,116,41],[40,61,32,107,32,107,32,35,48,41],[40,61,32,110,97,116,32,112,32,35,48,41],[98],[40,64,32,110,97,116,32,49,41],[40,62,32,110,97,116,32,40,102,32,35,48,41,41],[40,92,32,110,97,116,32,40,113,32,110,97,116,41,41]]
def wrongT:List Tm:=[ap (cq [107]) (cq [107]),ap (cq [102]) (cq [112]),la_ (cq [107]) (vr 0),pi_ (cq [107]) tNat,.mk 7 0 [] [] [cq [107],cq [107],vr 0],.mk 7 0 [] [] [tNat,cq [112],vr 0],cq [98],cl_ nNat l1,pi_ tNat (ap (cq [102]) (vr 0)),la_ tNat (ap (cq [113]) tNat)]
def wantI:List Int:=[20,18,19,19,19,18,13,16,19,18]
theorem jee:∀ i:Nat,i < 10→∃ v,TmP (wrongT.getD i tz) v∧Pf C1 22 [sv (wrongS.getD i [])] [v]:=by
 intro i hi
 match i,hi with
 |0,_=>exact j0N jks
 |1,_=>exact j0N jl6
 |2,_=>exact j0N jjy
 |3,_=>exact j0N jjI
 |4,_=>exact j0N jki
 |5,_=>exact j0N jjG
 |6,_=>exact j0N jk8
 |7,_=>exact j0N jk4
 |8,_=>exact j0N jkD
 |9,_=>exact j0N jjT
 |i + 10,h=>exact absurd h (by omega)
open Go Go.Am Go.Gw
def tA5:Tm:=ap (la_ tNat (ap (cq [102]) (vr 0))) (cq [107])
def tB5:Tm:=ap (la_ tNat (vr 0)) (cq [112])
theorem jqc:j3j nv14 60 [] tA5 5000=some (.ok (pi_ tNat tNat),4987):=by kernel_rfl
theorem jq2:j3j nv14 60 [] tB5 4987=some (.error 18,4974):=by kernel_rfl
theorem jpD:jnN nv14 60 [] tL 4974=some (.ok (.mk 1 0 []),4965):=by kernel_rfl
theorem jqj:jfa nv14 60 [] (cq [104]) (cq [112]) 4965=some (.ok (),4962):=by kernel_rfl
theorem jpt:jfa nv14 60 [] (cq [104]) (ap (cq [113]) (cq [107])) 4962=some (.error 18,4955):=by kernel_rfl
theorem jqr:j6B nv14 60 [tNat,ap (cq [113]) (vr 0)] 4955=some (.ok (),4947):=by kernel_rfl
theorem jpx:j6B nv14 60 [cq [107]] 4947=some (.error 19,4945):=by kernel_rfl
theorem xiEq {x y:Operand} {cs:List PV}:j0l C1.P .eql 52 x y (.ci cs) nilP=some (bv false):=by kernel_rfl
theorem xiNe {x y:Operand} {cs:List PV}:j0l C1.P .neq 52 x y (.ci cs) nilP=some (bv true):=by kernel_rfl
theorem jlu {op:BinOp} {x y:Operand} {cs:List PV} {K:PV→Prop} (h:jlX op false K):VRes (j0l C1.P op 52 x y (.ci cs) nilP) K:=by
 cases op with
 |eql=>exact ⟨_,xiEq,h⟩
 |neq=>exact ⟨_,xiNe,h⟩
 |_=>exact h.elim
theorem j4l:CtxN [] (.sl true 0 []):=⟨_,_,_,rfl,.inr ⟨rfl,rfl,rfl⟩,rfl,by simp⟩
theorem jjN {ts:List Tm} {xs:List PV} {b:Bool} (h:TmsP ts xs) (hn:¬ xs=[]) (hl:ts.length ≤ 100):CtxN ts (.sl b 5 xs):=⟨_,_,_,rfl,.inl ⟨rfl,hn⟩,h,by omega⟩
theorem jfN:Pf C1 21 [] [bv true]:=by
 obtain ⟨cs,hE,hB⟩:=j9t
 have hB:=hB 5000 (by omega) (by omega)
 have ht:(5000:Int) ≤ 1048576:=by omega
 obtain ⟨la,hla,cla⟩:=j0N jmc
 obtain ⟨lb,hlb,clb⟩:=j0N jmU
 obtain ⟨lc,hlc,clc⟩:=j0N jns
 obtain ⟨lh,hlh,clh⟩:=j0N jni
 obtain ⟨lp,hlp,clp⟩:=j0N jmC
 obtain ⟨lq,hlq,clq⟩:=j0N jmb
 obtain ⟨ln,hln,cln⟩:=j0N jgl
 obtain ⟨lr,hlr,clr⟩:=j0N jmE
 obtain ⟨lk,hlk,clk⟩:=j0N jmw
 have sa:=(j2D hE ht [] _ j4l _ _ hla 5000 _ _ (by omega) (by omega) jqc).2.2
 have sb:=(j2D hE ht [] _ j4l _ _ hlb 4987 _ _ (by omega) (by omega) jq2).2.2
 have sc:=(jlM hE ht [] _ j4l _ _ hlc 4974 _ _ (by omega) (by omega) jpD).2.2
 have sh:Fr _ _ _ _ _ (.ret [iv 0]) _:=jbs hE ht [] _ j4l _ _ hlh _ _ hlp 4965 _ _ (by omega) (by omega) jqj
 have si:=(jbs hE ht [] _ j4l _ _ hlh _ _ hlq 4962 _ _ (by omega) (by omega) jpt).2
 have sj:Fr _ _ _ _ _ (.ret [iv 0]) _:=j8X hE ht [tNat,ap (cq [113]) (vr 0)] _ (jjN (b:=true) ⟨ln,[lr],rfl,hln,lr,[],rfl,hlr,rfl⟩ (by simp) (by simp)) 4955 _ _ (by omega) (by omega) jqr
 have sk:=(j8X hE ht [cq [107]] _ (jjN (b:=true) ⟨lk,[],rfl,hlk,rfl⟩ (by simp) (by simp)) 4947 _ _ (by omega) (by omega) jpx).2
 have so:=jjQ cs 5000 4945
 have hT:=jp4 jq0
 have hZ:=jpu jpF
 simp only [errL,errV] at sa sb sc
 obtain ⟨la1,la2,la3,la4,la5,la6,la7,la8,la9,lax,lay,-,rfl,-⟩:=hla.open
 obtain ⟨lb1,lb2,lb3,lb4,lb5,lb6,lb7,lb8,lb9,lbx,lby,-,rfl,-⟩:=hlb.open
 obtain ⟨lc1,lc2,lc3,lc4,lc5,lc6,lc7,lc8,lc9,lcx,lcy,-,rfl,-⟩:=hlc.open
 obtain ⟨lh1,lh2,lh3,lh4,lh5,lh6,lh7,lh8,lh9,lhx,lhy,-,rfl,-⟩:=hlh.open
 obtain ⟨lp1,lp2,lp3,lp4,lp5,lp6,lp7,lp8,lp9,lpx,lpy,-,rfl,-⟩:=hlp.open
 obtain ⟨lq1,lq2,lq3,lq4,lq5,lq6,lq7,lq8,lq9,lqx,lqy,-,rfl,-⟩:=hlq.open
 obtain ⟨ln1,ln2,ln3,ln4,ln5,ln6,ln7,ln8,ln9,lnx,lny,-,rfl,-⟩:=hln.open
 obtain ⟨lr1,lr2,lr3,lr4,lr5,lr6,lr7,lr8,lr9,lrx,lry,-,rfl,-⟩:=hlr.open
 obtain ⟨lk1,lk2,lk3,lk4,lk5,lk6,lk7,lk8,lk9,lkx,lky,-,rfl,-⟩:=hlk.open
 obtain ⟨u1,u2,u3,u4,u5,u6,u7,u8,u9,ue⟩:=j0a (pi_ tNat tNat)
 rw [ue] at sa hT
 obtain ⟨z1,z2,z3,z4,z5,ze⟩:=j0y (.mk 1 0 [])
 rw [ze] at sc hZ
 refine j00 Tryz.func21 rfl rfl rfl ?_
 repeat' ((conv=>whnf);first|apply gT|apply gF|apply gO|refine j04 rfl ?_|refine jbW hB rfl rfl (j1K rfl ?_)|refine jos ?_|refine jlu ?_|refine j3v ?_|refine j01 cla rfl rfl ?_|refine j01 clb rfl rfl ?_|refine j01 clc rfl rfl ?_|refine j01 clh rfl rfl ?_|refine j01 clp rfl rfl ?_|refine j01 clq rfl rfl ?_|refine j01 cln rfl rfl ?_|refine j01 clr rfl rfl ?_|refine j01 clk rfl rfl ?_|refine j01 hT rfl rfl ?_|refine j01 hZ rfl rfl ?_|refine j02 sa rfl rfl rfl rfl rfl rfl rfl ?_|refine j02 sb rfl rfl rfl rfl rfl rfl rfl ?_|refine j02 sc rfl rfl rfl rfl rfl rfl rfl ?_|refine j02 sh rfl rfl rfl rfl rfl rfl rfl ?_|refine j02 si rfl rfl rfl rfl rfl rfl rfl ?_|refine j02 sj rfl rfl rfl rfl rfl rfl rfl ?_|refine j02 sk rfl rfl rfl rfl rfl rfl rfl ?_|refine j02 so rfl rfl rfl rfl rfl rfl rfl ?_)
 all_goals (try (conv=>whnf))
 all_goals rfl
open Go Go.Am Go.Gw
theorem ap_P {a b:Tm} {v w:PV} (ha:TmP a v) (hb:TmP b w):TmP (ap a b) (.ag [iv 4,iv 0,sv [],.sl true 0 [],.sl true 5 [v,w]]) :=
 ⟨true,0,[],true,5,[v,w],rfl,.inr rfl,rfl,by simp,.inl rfl,⟨v,[w],rfl,ha,w,[],rfl,hb,rfl⟩,by simp,by simp,by unfold i64; omega⟩
theorem la_P {a b:Tm} {v w:PV} (ha:TmP a v) (hb:TmP b w):TmP (la_ a b) (.ag [iv 5,iv 0,sv [],.sl true 0 [],.sl true 5 [v,w]]) :=
 ⟨true,0,[],true,5,[v,w],rfl,.inr rfl,rfl,by simp,.inl rfl,⟨v,[w],rfl,ha,w,[],rfl,hb,rfl⟩,by simp,by simp,by unfold i64; omega⟩
theorem cq_P (s:List UInt8) (hs:s.length ≤ 1000):TmP (cq s) (.ag [iv 3,iv 0,sv s,.sl true 0 [],.sl true 0 []]) :=
 ⟨true,0,[],true,0,[],rfl,.inr rfl,rfl,by simp,.inr rfl,rfl,by simp,by omega,by unfold i64; omega⟩
theorem j6m (s:List UInt8):Pf C1 59 [sv s,.sl true 0 []] [.ag [iv 3,iv 0,sv s,.sl true 0 [],.sl true 0 []]]:=by
 refine j00 Tryz.func59 rfl rfl rfl ?_
 repeat' ((conv=>whnf);first|apply gO|refine j04 rfl ?_)
 all_goals (try (conv=>whnf))
 all_goals rfl
theorem jad (f:Tm) (fv:PV) (h:TmP f fv) (args:List Tm) (b:Bool) (z:Nat) (xs:List PV) (hz:z=5∨xs=[]) (hxs:TmsP args xs) (hl:args.length ≤ 100):∃ w,TmP (args.foldl ap f) w∧Pf C1 58 [fv,.sl b z xs] [w]:=by
 have hlen:=hxs.len
 refine Finds.out (P:=fun w=>TmP (args.foldl ap f) w) (R:=fun w=>.ret [w]) ?_
 have h':=h
 obtain ⟨k1,n1,s1,l1,t1,b1,z1,x1,c1,y1,ys1,-,rfl,-⟩:=h'.open
 refine j00 Tryz.func58 rfl rfl rfl ?_
 repeat' ((conv=>whnf);first|refine VOk.mk rfl ?_)
 all_goals (try (conv=>whnf))
 refine j09 (G:=Nat × Tm × PV) (fun g=>[(6,iv g.1)]) (fun g=>[.box 25 [iv k1,iv n1,sv s1,.sl b1 z1 x1,.sl c1 y1 ys1],.box 25 zTm,.box 25 g.2.2.cells]) (fun g=>g.1 ≤ args.length∧(args.drop g.1).foldl ap g.2.1=args.foldl ap f∧TmP g.2.1 g.2.2) (fun g=>args.length - g.1) (0,f,_) ⟨by omega,rfl,h⟩ rfl rfl ?_
 rintro ⟨i,t,v⟩ ⟨hi,hall,hv⟩
 dsimp only at hi hall hv ⊢
 have hv':=hv
 obtain ⟨k2,n2,s2,l2,t2,b2,z2,x2,c2,y2,ys2,-,rfl,-⟩:=hv'.open
 repeat' ((conv=>whnf);first|apply gE<;>intro h|apply gO|apply gQ|refine j04 rfl ?_)
 all_goals (try (conv=>whnf))
 ·have hi':i < args.length:=by omega
  obtain ⟨a,ha⟩:∃ a,args[i]? = some a:=⟨_,List.getElem?_eq_getElem hi'⟩
  obtain ⟨w,hw,hP⟩:=hxs.at ha
  rw [drop_at ha] at hall
  have hP':=hP
  obtain ⟨k3,n3,s3,l3,t3,b3,z3,x3,c3,y3,ys3,-,rfl,-⟩:=hP'.open
  repeat' ((conv=>whnf);first|apply gO|refine gV ?_|refine VIdx.mk _ hw ?_|refine VOk.mk (j07 rfl hz) ?_)
  all_goals (try (conv=>whnf))
  exact VAgain.mk _ rfl _ (j0h rfl rfl rfl) ⟨(i + 1,ap t a,_),⟨hi',hall,ap_P hv hP⟩,by dsimp only; omega,rfl⟩
 ·have hl:i=args.length:=by omega
  subst hl
  rw [List.drop_length] at hall
  refine ⟨_,?_,rfl⟩
  rw [← hall]
  exact hv
theorem jll (n:Int) (h0:0 ≤ n) (h1:n ≤ 100):∃ w,TmP (jd1 n.toNat) w∧Pf C1 24 [iv n] [w]:=by
 obtain ⟨m,rfl⟩:∃ m:Nat,n=m:=⟨n.toNat,by omega⟩
 refine Finds.out (P:=fun w=>TmP (jd1 (m:Int).toNat) w) (R:=fun w=>.ret [w]) ?_
 have hc:=j6m j4i
 have hs:=j6m j4P
 refine j00 Tryz.func24 rfl rfl rfl ?_
 repeat' ((conv=>whnf);first|apply gO|refine j01 hc rfl rfl ?_)
 all_goals (try (conv=>whnf))
 refine j09 (G:=Nat × PV) (fun g=>[(4,iv g.1)]) (fun g=>[.box 25 zTm,.box 25 g.2.cells]) (fun g=>g.1 ≤ m∧TmP (jd1 g.1) g.2) (fun g=>m - g.1) (0,.ag [iv 3,iv 0,sv j4i,.sl true 0 [],.sl true 0 []]) ⟨by omega,cq_P _ (by decide)⟩ rfl rfl ?_
 rintro ⟨i,v⟩ ⟨hi,hv⟩
 dsimp only at hi hv ⊢
 have hv':=hv
 obtain ⟨k2,n2,s2,l2,t2,b2,z2,x2,c2,y2,ys2,-,rfl,-⟩:=hv'.open
 repeat' ((conv=>whnf);first|apply gE<;>intro h|apply gO|refine j04 rfl ?_|apply gK)
 all_goals (try (conv=>whnf))
 ·obtain ⟨w,hw,ha⟩:=jad _ _ (cq_P j4P (by decide)) [jd1 i] true 5 _ (.inl rfl) ⟨_,[],rfl,hv,rfl⟩ (by simp)
  have hw':=hw
  obtain ⟨k3,n3,s3,l3,t3,b3,z3,x3,c3,y3,ys3,-,rfl,-⟩:=hw'.open
  repeat' ((conv=>whnf);first|apply gO|apply gP|refine gV ?_|refine j05 hs (fun _=>?_)|refine j05 ha (fun _=>?_)|apply gK)
  all_goals (try (conv=>whnf))
  exact VAgain.mk _ rfl _ (j0h rfl rfl rfl) ⟨(i + 1,_),⟨by omega,hw⟩,by dsimp only; omega,rfl⟩
 ·have hl:i=m:=by omega
  subst hl
  exact ⟨_,hv,rfl⟩
theorem jma (s:List UInt8) (hs:s.length ≤ 1000) (a b:Tm) (v w:PV) (ha:TmP a v) (hb:TmP b w):∃ u,TmP (ap (ap (cq s) a) b) u∧Pf C1 23 [sv s,v,w] [u]:=by
 obtain ⟨u,hu,hp⟩:=jad _ _ (cq_P s hs) [a,b] true 5 [v,w] (.inl rfl) ⟨v,[w],rfl,ha,w,[],rfl,hb,rfl⟩ (by simp)
 refine ⟨u,hu,?_⟩
 have hc:=j6m s
 obtain ⟨k1,n1,s1,l1,t1,b1,z1,x1,c1,y1,ys1,-,rfl,-⟩:=ha.open
 obtain ⟨k2,n2,s2,l2,t2,b2,z2,x2,c2,y2,ys2,-,rfl,-⟩:=hb.open
 obtain ⟨k3,n3,s3,l3,t3,b3,z3,x3,c3,y3,ys3,-,rfl,-⟩:=hu.open
 refine j00 Tryz.func23 rfl rfl rfl ?_
 repeat' ((conv=>whnf);first|apply gO|apply gP|refine j04 rfl ?_|refine j05 hc (fun _=>?_)|refine j05 hp (fun _=>?_)|apply gK)
 all_goals (try (conv=>whnf))
 all_goals rfl
open Go Go.Am Go.Gw
def jj8:Nat→Tm→Tm
 |0,t=>t
 |n + 1,t=>la_ tNat (jj8 n t)
noncomputable def chkA (n i:Nat):Bool:=match j3j nv14 60 [] (jj8 n (wrongT.getD i tz)) 5000 with
 |some (.error e,l)=>decide (e=wantI.getD i 0∧1000 ≤ l∧l ≤ 5000)
 |_=>false
noncomputable def chkB (n j:Nat):Bool:=match j3j nv14 60 [] (ap (ap (cq nAdd) (wrongT.getD (8 + j) tz)) (jd1 n)) 1000 with
 |some (.error e,_)=>decide (e=wantI.getD (8 + j) 0∧¬ e=22)
 |_=>false
theorem allA:((List.range 21).all fun n=>(List.range 8).all fun i=>chkA n i)=true:=by kernel_rfl
theorem allB:((List.range 21).all fun n=>(List.range 2).all fun i=>chkB n i)=true:=by kernel_rfl
theorem jqk {n i:Nat} (hn:n < 21) (hi:i < 8):∃ l,j3j nv14 60 [] (jj8 n (wrongT.getD i tz)) 5000=some (.error (wantI.getD i 0),l)∧1000 ≤ l∧l ≤ 5000:=by
 have h:=List.all_eq_true.1 (List.all_eq_true.1 allA n (List.mem_range.2 hn)) i (List.mem_range.2 hi)
 unfold chkA at h
 split at h
 ·rename_i e l he
  obtain ⟨rfl,h2⟩:=of_decide_eq_true h
  exact ⟨l,he,h2⟩
 ·cases h
theorem jq9 {n j:Nat} (hn:n < 21) (hj:j < 2) (l:Int) (hl:1000 ≤ l):∃ l',j3j nv14 60 [] (ap (ap (cq nAdd) (wrongT.getD (8 + j) tz)) (jd1 n)) l=some (.error (wantI.getD (8 + j) 0),l'):=by
 have h:=List.all_eq_true.1 (List.all_eq_true.1 allB n (List.mem_range.2 hn)) j (List.mem_range.2 hj)
 unfold chkB at h
 split at h
 ·rename_i e l' he
  obtain ⟨rfl,h2⟩:=of_decide_eq_true h
  have:=(j9i (E:=nv14) (n:=60) [] _).more 1000 _ _ (l - 1000) (by omega) (by omega) he (fun e=>h2 (Except.error.inj e))
  rw [show (1000:Int) + (l - 1000)=l by omega] at this
  exact ⟨_,this⟩
 ·cases h
theorem and7 (a:Int):∃ k:Nat,k < 8∧∀ x y,j0l C1.P .and 3 x y (iv a) (iv 7)=some (iv k):=by
 have h:(BitVec.ofInt 64 a &&& BitVec.ofInt 64 7).toNat ≤ 7:=by
  rw [BitVec.toNat_and]
  exact Nat.and_le_right
 refine ⟨(BitVec.ofInt 64 a &&& BitVec.ofInt 64 7).toNat,by omega,fun x y=>?_⟩
 rw [← Gw.wrap_i64 (n:=((BitVec.ofInt 64 a &&& BitVec.ofInt 64 7).toNat:Int)) (by unfold i64; omega)]
 kernel_rfl
theorem and1 (a:Int):∃ k:Nat,k < 2∧∀ x y,j0l C1.P .and 3 x y (iv a) (iv 1)=some (iv k):=by
 have h:(BitVec.ofInt 64 a &&& BitVec.ofInt 64 1).toNat ≤ 1:=by
  rw [BitVec.toNat_and]
  exact Nat.and_le_right
 refine ⟨(BitVec.ofInt 64 a &&& BitVec.ofInt 64 1).toNat,by omega,fun x y=>?_⟩
 rw [← Gw.wrap_i64 (n:=((BitVec.ofInt 64 a &&& BitVec.ofInt 64 1).toNat:Int)) (by unfold i64; omega)]
 kernel_rfl
theorem j8W (n what:Int):Pf C1 5 [iv n,iv what] [bv true]:=by
 have ha:=jfN
 by_cases hn:0 ≤ n∧n ≤ 20
 rotate_left
 ·refine j00 Tryz.func5 rfl rfl rfl ?_
  repeat' ((conv=>whnf);first|apply gT|apply gF|refine gA ?_|refine gB ?_|apply gE<;>intro h|refine j04 rfl ?_|refine j01 ha rfl rfl ?_)
  all_goals (try (conv=>whnf))
  all_goals first|rfl|(exfalso; omega)
 obtain ⟨i,hi,hand⟩:=and7 what
 obtain ⟨j,hj,hand1⟩:=and1 what
 obtain ⟨m,rfl⟩:∃ m:Nat,n=m:=⟨n.toNat,by omega⟩
 obtain ⟨w0,hw0,hr0⟩:=jee i (by omega)
 obtain ⟨w1,hw1,hr1⟩:=jee (8 + j) (by omega)
 obtain ⟨vn,hvn,hrn⟩:=j0N jgl
 obtain ⟨wn,hwn,hnum⟩:=jll m (by omega) (by omega)
 obtain ⟨u,hu,hof⟩:=jma nAdd (by decide) _ _ _ _ hw1 hwn
 obtain ⟨cs,hE,hB⟩:=j9t
 have hB:=hB 5000 (by omega) (by omega)
 have ht:(5000:Int) ≤ 1048576:=by omega
 obtain ⟨la,hA,hla1,hla2⟩:=jqk (n:=m) (i:=i) (by omega) hi
 obtain ⟨lb,hBb⟩:=jq9 (n:=m) (j:=j) (by omega) hj la hla1
 have sb:=(j2D hE ht [] _ j4l _ _ hu la _ _ (by omega) (by omega) (by rw [Int.toNat_natCast]; exact hBb)).2.2
 simp only [errV] at sb
 have sA:=fun v h=>(j2D hE ht [] _ j4l (jj8 m (wrongT.getD i tz)) v h 5000 _ _ (by omega) (by omega) hA).2.2
 simp only [errV] at sA
 have hs0:(wrongS.map sv)[i]? = some (sv (wrongS.getD i [])):=by
  match i,hi with
  |0,_|1,_|2,_|3,_|4,_|5,_|6,_|7,_=>rfl
  |i + 8,h=>exact absurd h (by omega)
 have hs1:(wrongS.map sv)[8 + j]? = some (sv (wrongS.getD (8 + j) [])):=by
  match j,hj with
  |0,_|1,_=>rfl
  |j + 2,h=>exact absurd h (by omega)
 have hq0:(wantI.map iv)[i]? = some (iv (wantI.getD i 0)):=by
  match i,hi with
  |0,_|1,_|2,_|3,_|4,_|5,_|6,_|7,_=>rfl
  |i + 8,h=>exact absurd h (by omega)
 have hq1:(wantI.map iv)[8 + j]? = some (iv (wantI.getD (8 + j) 0)):=by
  match j,hj with
  |0,_|1,_=>rfl
  |j + 2,h=>exact absurd h (by omega)
 have e8:((8:Int) + (j:Int))=((8 + j:Nat):Int):=by omega
 obtain ⟨a1,a2,a3,a4,a5,a6,a7,a8,a9,ax,ay,-,rfl,-⟩:=hvn.open
 obtain ⟨b1,b2,b3,b4,b5,b6,b7,b8,b9,bx,by_,-,rfl,-⟩:=hu.open
 obtain ⟨c1,c2,c3,c4,c5,c6,c7,c8,c9,cx,cy,-,rfl,-⟩:=hw1.open
 obtain ⟨d1,d2,d3,d4,d5,d6,d7,d8,d9,dx,dy,-,rfl,-⟩:=hwn.open
 have hw0':=hw0
 obtain ⟨e1,e2,e3,e4,e5,e6,e7,e8',e9,ex,ey,-,rfl,-⟩:=hw0'.open
 refine j00 Tryz.func5 rfl rfl rfl ?_
 repeat' ((conv=>whnf);first|apply gF|apply gE<;>intro h|apply gO|apply gQ|refine j04 rfl ?_|refine j01 ha rfl rfl ?_|refine VRes.mk _ (hand _ _) ?_|refine VIdx.mk _ hs0 ?_|refine j01 hr0 rfl rfl ?_)
 all_goals (try (conv=>whnf))
 all_goals first|(exfalso; omega)|skip
 refine j09 (G:=Nat × PV) (fun g=>[(9,iv g.1)]) (fun g=>[.box 25 g.2.cells]) (fun g=>g.1 ≤ m∧TmP (jj8 g.1 (wrongT.getD i tz)) g.2) (fun g=>m - g.1) (0,.ag [iv e1,iv e2,sv e3,.sl e6 e7 e8',.sl e9 ex ey]) ⟨by omega,hw0⟩ rfl rfl ?_
 rintro ⟨q,v⟩ ⟨hq,hv⟩
 dsimp only at hq hv ⊢
 have hv':=hv
 obtain ⟨k2,n2,s2,l2,t2,g2,z2,x2,h2,y2,ys2,-,rfl,-⟩:=hv'.open
 repeat' ((conv=>whnf);first|apply gE<;>intro h|apply gK)
 all_goals (try (conv=>whnf))
 ·repeat' ((conv=>whnf);first|apply gO|apply gP|refine gV ?_|refine j05 hrn (fun _=>?_))
  all_goals (try (conv=>whnf))
  exact VAgain.mk _ rfl _ (j0h rfl rfl rfl) ⟨(q + 1,_),⟨by omega,la_P hvn hv⟩,by dsimp only; omega,rfl⟩
 ·obtain rfl:q=m:=by omega
  have sa:=sA _ hv
  repeat' ((conv=>whnf);first|apply gT|apply gF|refine gA ?_|refine gB ?_|apply gE<;>intro h|apply gO|apply gQ|refine gV ?_|refine j04 rfl ?_|refine VRes.mk _ (hand1 _ _) ?_|refine VIdx.mk _ hs1 ?_|refine j01 hr1 rfl rfl ?_|refine j01 hnum rfl rfl ?_|refine j01 hof rfl rfl ?_|refine jbW hB rfl rfl (j1K rfl ?_)|refine jlu ?_|refine j3K (i:=2) sa rfl rfl rfl rfl rfl rfl rfl ?_|refine j3K (i:=2) sb rfl rfl rfl rfl rfl rfl rfl ?_|refine VIdx.mk _ hq0 ?_|refine VIdx.mk _ hq1 ?_)
  all_goals (try (conv=>whnf))
  all_goals first|rfl|(exfalso; omega)|exact j1R (decide_eq_true rfl)|contradiction
end Go.Proofs.YtljnahbgfmflaaaGreatDoor

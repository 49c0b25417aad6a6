/-
  The law's entries, and a Conv that looks at them. No statement of the seat.
-/
import Derived.Test.YtljnahbgfmflaaaGreatDoorZIt
import Derived.Test.YtljnahbgfmflaaaGreatDoorZIs
import Derived.Test.YtljnahbgfmflaaaGreatDoorZPl
import Derived.Test.YtljnahbgfmflaaaGreatDoorZQy
import Derived.Lib.LaidTab
import Derived.Test.YtljnahbgfmflaaaGreatDoorZKd
import Derived.Test.YtljnahbgfmflaaaGreatDoorZIo
set_option linter.unusedVariables false
set_option maxHeartbeats 4000000
set_option maxRecDepth 1000000
set_option linter.unusedSimpArgs false
set_option linter.unnecessarySimpa false
namespace Go.Proofs.YtljnahbgfmflaaaGreatDoor
open Go Go.Am Go.Gw
theorem jjt {f:FuncId} {rs:List PV} {st st1:Sto} {K:AEnd→Sto→Prop} (h:Finds C1 f [] [] fun r s=>r = .ret rs∧s=st1) (hp:rs.all (pur 8)=false) (hb:VBack [] st (.ret rs) st1 K):VCall C1 f [] st K:=j1l rfl (Finds.mono h (by rintro _ _ ⟨rfl,rfl⟩; exact ⟨hp,hb⟩))
def axE (s:List UInt8) (t:Tm):En:=⟨1,0,s,t,tz,0,[],0,0,0,[]⟩
def twoT:Tm:=pi_ tNat (pi_ tNat tNat)
def jbO:List En:=[⟨5,0,nNat,so_ l1,tz,0,[],0,0,0,[j4i,j4P]⟩,⟨6,0,j4i,tNat,jo6,0,nNat,0,0,0,[]⟩,⟨6,0,j4P,pi_ tNat tNat,jnC,0,nNat,0,1,1,[]⟩,⟨7,1,nRec,recT,tz,0,nNat,0,0,0,[j4i,j4P]⟩,⟨2,0,nAdd,twoT,jqm,1,[],0,0,0,[]⟩,⟨2,0,nMul,twoT,jqp,2,[],0,0,0,[]⟩,axE [107] tNat,axE [112] (so_ l0),axE [104] (cq [112]),axE [105] (cq [112]),axE [113] (pi_ tNat (so_ l0)),axE [102] twoT]
theorem jj7:∃ xs,EnsP jbO xs∧Pf C1 42 [] [.sl false 19 xs]:=by
 refine Finds.out (P:=EnsP jbO) (R:=fun xs=>.ret [.sl false 19 xs]) ?_
 obtain ⟨xs,hx,hl⟩:=jk3
 obtain ⟨v0,_,rfl,p0,v1,_,rfl,p1,v2,_,rfl,p2,v3,_,rfl,p3,v4,_,rfl,p4,v5,_,rfl,p5,v6,_,rfl,p6,rfl⟩:=hx
 obtain ⟨rr,hrr,cr⟩:=j0N jhC
 obtain ⟨rt,hrt,ct⟩:=j0N jhF
 obtain ⟨rs,hrs,cs⟩:=j0N jkA
 obtain ⟨rp,hrp,cp⟩:=j0N jmH
 obtain ⟨rq,hrq,cq'⟩:=j0N jnB
 have hrr':=hrr
 obtain ⟨rr1,rr2,rr3,rr4,rr5,rr6,rr7,rr8,rr9,rra,rrb,-,rfl,-⟩:=hrr'.open
 have hrt':=hrt
 obtain ⟨rt1,rt2,rt3,rt4,rt5,rt6,rt7,rt8,rt9,rta,rtb,-,rfl,-⟩:=hrt'.open
 have hrs':=hrs
 obtain ⟨rs1,rs2,rs3,rs4,rs5,rs6,rs7,rs8,rs9,rsa,rsb,-,rfl,-⟩:=hrs'.open
 have hrp':=hrp
 obtain ⟨rp1,rp2,rp3,rp4,rp5,rp6,rp7,rp8,rp9,rpa,rpb,-,rfl,-⟩:=hrp'.open
 have hrq':=hrq
 obtain ⟨rq1,rq2,rq3,rq4,rq5,rq6,rq7,rq8,rq9,rqa,rqb,-,rfl,-⟩:=hrq'.open
 have p0':=p0
 have p1':=p1
 have p2':=p2
 have p3':=p3
 have p4':=p4
 have p5':=p5
 have p6':=p6
 obtain ⟨e0_0,e0_1,e0_2,e0_3,e0_4,e0_5,e0_6,e0_7,e0_8,e0_9,e0_10,e0_11,e0_12,e0_13,e0_14,e0_15,e0_16,e0_17,e0_18,e0_19,rfl,e0h⟩:=p0
 obtain ⟨e1_0,e1_1,e1_2,e1_3,e1_4,e1_5,e1_6,e1_7,e1_8,e1_9,e1_10,e1_11,e1_12,e1_13,e1_14,e1_15,e1_16,e1_17,e1_18,e1_19,rfl,e1h⟩:=p1
 obtain ⟨e2_0,e2_1,e2_2,e2_3,e2_4,e2_5,e2_6,e2_7,e2_8,e2_9,e2_10,e2_11,e2_12,e2_13,e2_14,e2_15,e2_16,e2_17,e2_18,e2_19,rfl,e2h⟩:=p2
 obtain ⟨e3_0,e3_1,e3_2,e3_3,e3_4,e3_5,e3_6,e3_7,e3_8,e3_9,e3_10,e3_11,e3_12,e3_13,e3_14,e3_15,e3_16,e3_17,e3_18,e3_19,rfl,e3h⟩:=p3
 obtain ⟨e4_0,e4_1,e4_2,e4_3,e4_4,e4_5,e4_6,e4_7,e4_8,e4_9,e4_10,e4_11,e4_12,e4_13,e4_14,e4_15,e4_16,e4_17,e4_18,e4_19,rfl,e4h⟩:=p4
 obtain ⟨e5_0,e5_1,e5_2,e5_3,e5_4,e5_5,e5_6,e5_7,e5_8,e5_9,e5_10,e5_11,e5_12,e5_13,e5_14,e5_15,e5_16,e5_17,e5_18,e5_19,rfl,e5h⟩:=p5
 obtain ⟨e6_0,e6_1,e6_2,e6_3,e6_4,e6_5,e6_6,e6_7,e6_8,e6_9,e6_10,e6_11,e6_12,e6_13,e6_14,e6_15,e6_16,e6_17,e6_18,e6_19,rfl,e6h⟩:=p6
 have hE:EnsP jbO [.ag [iv 5,iv 0,sv nNat,iv e0_0,iv e0_1,sv e0_2,.sl e0_3 e0_4 e0_5,.sl e0_6 e0_7 e0_8,iv e0_9,iv e0_10,sv e0_11,.sl e0_12 e0_13 e0_14,.sl e0_15 e0_16 e0_17,iv 0,sv [],iv 0,iv 0,iv 0,.sl e0_18 e0_19 (svs [j4i,j4P])],.ag [iv 6,iv 0,sv j4i,iv e1_0,iv e1_1,sv e1_2,.sl e1_3 e1_4 e1_5,.sl e1_6 e1_7 e1_8,iv e1_9,iv e1_10,sv e1_11,.sl e1_12 e1_13 e1_14,.sl e1_15 e1_16 e1_17,iv 0,sv nNat,iv 0,iv 0,iv 0,.sl e1_18 e1_19 (svs [])],.ag [iv 6,iv 0,sv j4P,iv e2_0,iv e2_1,sv e2_2,.sl e2_3 e2_4 e2_5,.sl e2_6 e2_7 e2_8,iv e2_9,iv e2_10,sv e2_11,.sl e2_12 e2_13 e2_14,.sl e2_15 e2_16 e2_17,iv 0,sv nNat,iv 0,iv 1,iv 1,.sl e2_18 e2_19 (svs [])],.ag [iv 7,iv 1,sv nRec,iv rr1,iv rr2,sv rr3,.sl rr6 rr7 rr8,.sl rr9 rra rrb,iv e3_9,iv e3_10,sv e3_11,.sl e3_12 e3_13 e3_14,.sl e3_15 e3_16 e3_17,iv 0,sv nNat,iv 0,iv 0,iv 0,.sl e3_18 e3_19 (svs [j4i,j4P])],.ag [iv 2,iv 0,sv nAdd,iv rt1,iv rt2,sv rt3,.sl rt6 rt7 rt8,.sl rt9 rta rtb,iv e4_9,iv e4_10,sv e4_11,.sl e4_12 e4_13 e4_14,.sl e4_15 e4_16 e4_17,iv 1,sv [],iv 0,iv 0,iv 0,.sl e4_18 e4_19 (svs [])],.ag [iv 2,iv 0,sv nMul,iv rt1,iv rt2,sv rt3,.sl rt6 rt7 rt8,.sl rt9 rta rtb,iv e5_9,iv e5_10,sv e5_11,.sl e5_12 e5_13 e5_14,.sl e5_15 e5_16 e5_17,iv 2,sv [],iv 0,iv 0,iv 0,.sl e5_18 e5_19 (svs [])],.ag [iv 1,iv 0,sv [107],iv e6_0,iv e6_1,sv e6_2,.sl e6_3 e6_4 e6_5,.sl e6_6 e6_7 e6_8,iv e6_9,iv e6_10,sv e6_11,.sl e6_12 e6_13 e6_14,.sl e6_15 e6_16 e6_17,iv 0,sv [],iv 0,iv 0,iv 0,.sl e6_18 e6_19 (svs [])],.ag [iv 1,iv 0,sv [112],iv rs1,iv rs2,sv rs3,.sl rs6 rs7 rs8,.sl rs9 rsa rsb,iv 0,iv 0,sv [],.sl true 0 [],.sl true 0 [],iv 0,sv [],iv 0,iv 0,iv 0,.sl true 0 []],.ag [iv 1,iv 0,sv [104],iv rp1,iv rp2,sv rp3,.sl rp6 rp7 rp8,.sl rp9 rpa rpb,iv 0,iv 0,sv [],.sl true 0 [],.sl true 0 [],iv 0,sv [],iv 0,iv 0,iv 0,.sl true 0 []],.ag [iv 1,iv 0,sv [105],iv rp1,iv rp2,sv rp3,.sl rp6 rp7 rp8,.sl rp9 rpa rpb,iv 0,iv 0,sv [],.sl true 0 [],.sl true 0 [],iv 0,sv [],iv 0,iv 0,iv 0,.sl true 0 []],.ag [iv 1,iv 0,sv [113],iv rq1,iv rq2,sv rq3,.sl rq6 rq7 rq8,.sl rq9 rqa rqb,iv 0,iv 0,sv [],.sl true 0 [],.sl true 0 [],iv 0,sv [],iv 0,iv 0,iv 0,.sl true 0 []],.ag [iv 1,iv 0,sv [102],iv rt1,iv rt2,sv rt3,.sl rt6 rt7 rt8,.sl rt9 rta rtb,iv 0,iv 0,sv [],.sl true 0 [],.sl true 0 [],iv 0,sv [],iv 0,iv 0,iv 0,.sl true 0 []]]:=⟨_,_,rfl,p0',_,_,rfl,p1',_,_,rfl,p2',_,_,rfl,⟨rr1,rr2,rr3,rr6,rr7,rr8,rr9,rra,rrb,e3_9,e3_10,e3_11,e3_12,e3_13,e3_14,e3_15,e3_16,e3_17,e3_18,e3_19,rfl,hrr,e3h.2⟩,_,_,rfl,⟨rt1,rt2,rt3,rt6,rt7,rt8,rt9,rta,rtb,e4_9,e4_10,e4_11,e4_12,e4_13,e4_14,e4_15,e4_16,e4_17,e4_18,e4_19,rfl,hrt,e4h.2⟩,_,_,rfl,⟨rt1,rt2,rt3,rt6,rt7,rt8,rt9,rta,rtb,e5_9,e5_10,e5_11,e5_12,e5_13,e5_14,e5_15,e5_16,e5_17,e5_18,e5_19,rfl,hrt,e5h.2⟩,_,_,rfl,p6',_,_,rfl,⟨rs1,rs2,rs3,rs6,rs7,rs8,rs9,rsa,rsb,0,0,[],true,0,[],true,0,[],true,0,rfl,hrs,j5i,.inr ⟨rfl,rfl,rfl⟩,by simp [axE],by simp [axE],by simp [axE],by simp [axE]⟩,_,_,rfl,⟨rp1,rp2,rp3,rp6,rp7,rp8,rp9,rpa,rpb,0,0,[],true,0,[],true,0,[],true,0,rfl,hrp,j5i,.inr ⟨rfl,rfl,rfl⟩,by simp [axE],by simp [axE],by simp [axE],by simp [axE]⟩,_,_,rfl,⟨rp1,rp2,rp3,rp6,rp7,rp8,rp9,rpa,rpb,0,0,[],true,0,[],true,0,[],true,0,rfl,hrp,j5i,.inr ⟨rfl,rfl,rfl⟩,by simp [axE],by simp [axE],by simp [axE],by simp [axE]⟩,_,_,rfl,⟨rq1,rq2,rq3,rq6,rq7,rq8,rq9,rqa,rqb,0,0,[],true,0,[],true,0,[],true,0,rfl,hrq,j5i,.inr ⟨rfl,rfl,rfl⟩,by simp [axE],by simp [axE],by simp [axE],by simp [axE]⟩,_,_,rfl,⟨rt1,rt2,rt3,rt6,rt7,rt8,rt9,rta,rtb,0,0,[],true,0,[],true,0,[],true,0,rfl,hrt,j5i,.inr ⟨rfl,rfl,rfl⟩,by simp [axE],by simp [axE],by simp [axE],by simp [axE]⟩,rfl⟩
 dsimp only at hl
 refine j00 Tryz.func42 rfl rfl rfl ?_
 repeat' ((conv=>whnf);first|apply gO|apply gQ|refine jjt hl rfl (j1K rfl ?_)|refine VIdx.mk _ rfl ?_|refine j01 cr rfl rfl ?_|refine j01 ct rfl rfl ?_|refine j01 cs rfl rfl ?_|refine j01 cp rfl rfl ?_|refine j01 cq' rfl rfl ?_)
 all_goals (try (conv=>whnf))
 exact jnr (xs:=[.ag [iv 5,iv 0,sv nNat,iv e0_0,iv e0_1,sv e0_2,.sl e0_3 e0_4 e0_5,.sl e0_6 e0_7 e0_8,iv e0_9,iv e0_10,sv e0_11,.sl e0_12 e0_13 e0_14,.sl e0_15 e0_16 e0_17,iv 0,sv [],iv 0,iv 0,iv 0,.sl e0_18 e0_19 (svs [j4i,j4P])],.ag [iv 6,iv 0,sv j4i,iv e1_0,iv e1_1,sv e1_2,.sl e1_3 e1_4 e1_5,.sl e1_6 e1_7 e1_8,iv e1_9,iv e1_10,sv e1_11,.sl e1_12 e1_13 e1_14,.sl e1_15 e1_16 e1_17,iv 0,sv nNat,iv 0,iv 0,iv 0,.sl e1_18 e1_19 (svs [])],.ag [iv 6,iv 0,sv j4P,iv e2_0,iv e2_1,sv e2_2,.sl e2_3 e2_4 e2_5,.sl e2_6 e2_7 e2_8,iv e2_9,iv e2_10,sv e2_11,.sl e2_12 e2_13 e2_14,.sl e2_15 e2_16 e2_17,iv 0,sv nNat,iv 0,iv 1,iv 1,.sl e2_18 e2_19 (svs [])],.ag [iv 7,iv 1,sv nRec,iv rr1,iv rr2,sv rr3,.sl rr6 rr7 rr8,.sl rr9 rra rrb,iv e3_9,iv e3_10,sv e3_11,.sl e3_12 e3_13 e3_14,.sl e3_15 e3_16 e3_17,iv 0,sv nNat,iv 0,iv 0,iv 0,.sl e3_18 e3_19 (svs [j4i,j4P])],.ag [iv 2,iv 0,sv nAdd,iv rt1,iv rt2,sv rt3,.sl rt6 rt7 rt8,.sl rt9 rta rtb,iv e4_9,iv e4_10,sv e4_11,.sl e4_12 e4_13 e4_14,.sl e4_15 e4_16 e4_17,iv 1,sv [],iv 0,iv 0,iv 0,.sl e4_18 e4_19 (svs [])],.ag [iv 2,iv 0,sv nMul,iv rt1,iv rt2,sv rt3,.sl rt6 rt7 rt8,.sl rt9 rta rtb,iv e5_9,iv e5_10,sv e5_11,.sl e5_12 e5_13 e5_14,.sl e5_15 e5_16 e5_17,iv 2,sv [],iv 0,iv 0,iv 0,.sl e5_18 e5_19 (svs [])],.ag [iv 1,iv 0,sv [107],iv e6_0,iv e6_1,sv e6_2,.sl e6_3 e6_4 e6_5,.sl e6_6 e6_7 e6_8,iv e6_9,iv e6_10,sv e6_11,.sl e6_12 e6_13 e6_14,.sl e6_15 e6_16 e6_17,iv 0,sv [],iv 0,iv 0,iv 0,.sl e6_18 e6_19 (svs [])],.ag [iv 1,iv 0,sv [112],iv rs1,iv rs2,sv rs3,.sl rs6 rs7 rs8,.sl rs9 rsa rsb,iv 0,iv 0,sv [],.sl true 0 [],.sl true 0 [],iv 0,sv [],iv 0,iv 0,iv 0,.sl true 0 []],.ag [iv 1,iv 0,sv [104],iv rp1,iv rp2,sv rp3,.sl rp6 rp7 rp8,.sl rp9 rpa rpb,iv 0,iv 0,sv [],.sl true 0 [],.sl true 0 [],iv 0,sv [],iv 0,iv 0,iv 0,.sl true 0 []],.ag [iv 1,iv 0,sv [105],iv rp1,iv rp2,sv rp3,.sl rp6 rp7 rp8,.sl rp9 rpa rpb,iv 0,iv 0,sv [],.sl true 0 [],.sl true 0 [],iv 0,sv [],iv 0,iv 0,iv 0,.sl true 0 []],.ag [iv 1,iv 0,sv [113],iv rq1,iv rq2,sv rq3,.sl rq6 rq7 rq8,.sl rq9 rqa rqb,iv 0,iv 0,sv [],.sl true 0 [],.sl true 0 [],iv 0,sv [],iv 0,iv 0,iv 0,.sl true 0 []],.ag [iv 1,iv 0,sv [102],iv rt1,iv rt2,sv rt3,.sl rt6 rt7 rt8,.sl rt9 rta rtb,iv 0,iv 0,sv [],.sl true 0 [],.sl true 0 [],iv 0,sv [],iv 0,iv 0,iv 0,.sl true 0 []]]) rfl rfl rfl rfl ⟨_,hE,rfl⟩
open Go Go.Am Go.Gw
def Tr.okB:Tr→Nat→Bool
 | .nil,_=>true
 | .nd _ _ l r d q,m=>(l.okB m && r.okB m) && decide (0 ≤ d∧d ≤ m∧0 ≤ q∧q ≤ m)
theorem Tr.okB_ok:∀ {t:Tr} {m:Nat},t.okB m=true→t.ok m
 | .nil,_,_=>trivial
 | .nd _ _ l r d q,m,h=>by
  simp only [Tr.okB,Bool.and_eq_true,decide_eq_true_eq] at h
  exact ⟨Tr.okB_ok h.1.1,Tr.okB_ok h.1.2,h.2⟩
def jey (s:List UInt8) (n:Int):Tr→Bool
 | .nil=>true
 | .nd _ _ l r _ _=>(l.okB 4000 && (r.okB 4000 && ((putR s n l).okB 4000 && (putR s n r).okB 4000))) && (jey s n l && jey s n r)
theorem ja4 {s:List UInt8} {n:Int}:∀ {t:Tr},jey s n t=true→jfc s n t
 | .nil,_=>trivial
 | .nd _ _ l r _ _,h=>by
  simp only [jey,Bool.and_eq_true] at h
  obtain ⟨⟨h1,h2,h3,h4⟩,h5,h6⟩:=h
  exact ⟨Tr.okB_ok h1,Tr.okB_ok h2,Tr.okB_ok h3,Tr.okB_ok h4,ja4 h5,ja4 h6⟩
def Tr.allB (n:Nat):Tr→Bool
 | .nil=>true
 | .nd _ i l r _ _=>decide (0 ≤ i∧i < n) && (l.allB n && r.allB n)
theorem Tr.allB_find {n:Nat} {s:List UInt8}:∀ {t:Tr},t.allB n=true→(j9D s t).allB n=true
 | .nil,_=>rfl
 | .nd s1 j l r d q,h=>by
  have h':=h
  simp only [Tr.allB,Bool.and_eq_true] at h'
  unfold j9D
  split
  ·exact h
  ·split
   ·exact Tr.allB_find h'.2.1
   ·exact Tr.allB_find h'.2.2
theorem Tr.allB_ok {n:Nat} {s:List UInt8} {t:Tr} (h:t.allB n=true) (i:Int) (hg:getR s t=some i):0 ≤ i∧i < n:=by
 have hf:=Tr.allB_find (s:=s) h
 unfold getR at hg
 cases hF:j9D s t with
 |nil =>
  rw [hF] at hg
  cases hg
 |nd s1 j l r d q =>
  rw [hF] at hg hf
  cases hg
  simp only [Tr.allB,Bool.and_eq_true,decide_eq_true_eq] at hf
  exact hf.1
def nvB (E:Nv):Bool:=E.tr.allB E.es.length && (E.es.all j2a && Nat.ble E.es.length 100000)
theorem jpU {E:Nv} (h:nvB E=true):NvOk E:=by
 simp only [nvB,Bool.and_eq_true] at h
 exact ⟨fun s i hg=>Tr.allB_ok h.1 i hg,fun e he=>List.all_eq_true.1 h.2.1 e he,Nat.le_of_ble_eq_true h.2.2⟩
def jn2:Nv→List En→Bool
 |_,[]=>true
 |E,e :: r=>(j2a e && ((getR e.nm E.tr).isNone && (jey e.nm E.es.length E.tr && (Nat.blt E.es.length 100000 && nvB (E.push e))))) && jn2 (E.push e) r
theorem jgO:∀ {es:List En} {E:Nv},jn2 E es=true→jhd E es
 |[],_,_=>trivial
 |e :: r,E,h=>by
  simp only [jn2,Bool.and_eq_true] at h
  obtain ⟨⟨h1,h2,h3,h4,h5⟩,h6⟩:=h
  exact ⟨⟨h1,by simpa using h2,ja4 h3,by simpa using h4,jpU h5⟩,jgO h6⟩
theorem jpq:jn2 nv0 jbO=true:=by kernel_rfl
def nv14:Nv:=jbT nv0 jbO
theorem jbW {f:FuncId} {args rs:List PV} {st st1:Sto} {K:AEnd→Sto→Prop} (h:Finds C1 f args [] fun r s=>r = .ret rs∧s=st1) (ha:args.all (pur 8)=true) (hp:rs.all (pur 8)=false) (hb:VBack [] st (.ret rs) st1 K):VCall C1 f args st K:=j1l ha (Finds.mono h (by rintro _ _ ⟨rfl,rfl⟩; exact ⟨hp,hb⟩))
open Go Go.Am Go.Gw
open Go Go.Am Go.Gw
def jd1:Nat→Tm
 |0=>cq j4i
 |n + 1=>ap (cq j4P) (jd1 n)
def tA1:Tm:=la_ tNat (ap (ap (cq [102]) (vr 0)) (vr 0))
def tB1:Tm:=la_ tNat (ap (ap (cq [102]) (cq j4i)) (vr 0))
def tB2:Tm:=ap (cq [102]) (cq j4i)
def tK:Tm:=ap (cq nAdd) (cq [107])
def tS:Tm:=ap (ap (cq nAdd) (jd1 2)) (jd1 1)
def tL:Tm:=pi_ tNat (ap (cq [113]) (vr 0))
theorem jq0:isTx [40,62,32,110,97,116,32,110,97,116,41] ((ev C1 60).call 35 [encT (pi_ tNat tNat)] [])=true:=by kernel_rfl
def out1 (r:Option (AEnd × Sto)):PV:=match r with
 |some (.ret [v],_)=>v
 |_=>.un
def is1 (r:Option (AEnd × Sto)):Bool:=match r with
 |some (.ret [_],_)=>true
 |_=>false
noncomputable def jqT (n:Int):PV:=out1 ((ev C1 60).call 24 [iv n] [])
noncomputable def lpV:PV:=out1 ((ev C1 60).call 37 [iv 0] [])
noncomputable def lnV:PV:=out1 ((ev C1 60).call 38 [iv 0] [])
noncomputable def liV:PV:=out1 ((ev C1 60).call 16 [lpV,lnV] [])
def jr9 (v:PV):Bool:=match v with
 | .ag [.sc (.int .i64 _),.sc (.int .i64 _),.sl _ _ _]=>true
 |_=>false
def isB (q:Bool) (r:Option (AEnd × Sto)):Bool:=match r with
 |some (.ret [.sc (.bool p)],_)=>p == q
 |_=>false
theorem jpu {q:Bool} {f:FuncId} {args:List PV} {n:Nat} (h:isB q ((ev C1 n).call f args [])=true):Pf C1 f args [bv q]:=by
 unfold isB at h
 split at h
 ·rename_i v st hc
  have e:=eq_of_beq h
  subst e
  exact jfn n hc
 ·cases h
theorem jpF:isB true ((ev C1 60).call 36 [encL (.mk 1 0 [])] [])=true:=by kernel_rfl
open Go Go.Am Go.Gw
theorem ciEq {x y:Operand} {cs:List PV}:j0l C1.P .eql 28 x y (.ci cs) nilP=some (bv false):=by kernel_rfl
theorem ciNe {x y:Operand} {cs:List PV}:j0l C1.P .neq 28 x y (.ci cs) nilP=some (bv true):=by kernel_rfl
theorem jos {op:BinOp} {x y:Operand} {cs:List PV} {K:PV→Prop} (h:jlX op false K):VRes (j0l C1.P op 28 x y (.ci cs) nilP) K:=by
 cases op with
 |eql=>exact ⟨_,ciEq,h⟩
 |neq=>exact ⟨_,ciNe,h⟩
 |_=>exact h.elim
open Go Go.Am
def memB (W:World):Hb.Mem:=fun b o=>match W.heap[b]? with
 |some (.cells c _ _)=>c[o]?
 |_=>none
theorem jn7 {W:World} {b o:Nat} {v:Value} (h:memB W b o=some v):∃ c T fr,W.heap[b]? = some (.cells c T fr)∧c[o]? = some v:=by
 unfold memB at h
 split at h
 ·rename_i c T fr e
  exact ⟨c,T,fr,e,h⟩
 ·cases h
theorem jqS {W:World} (hb:∀ b p,Hb.base b=some p→∃ cs T fr,p cs∧W.heap[b]? = some (.cells cs T fr)):Hb.Good ⟨W,memB W,Hb.feetOf []⟩ W (memB W) [] :=
 ⟨rfl,rfl,rfl,Nat.le_refl _,fun _ _ _=>rfl,fun b o v h=>jn7 h,Hb.Mem.le.refl _,fun _ _ _ h=>.inl h,by simp,by simp,.nil,fun b cs h=>⟨hb b cs h,by simp⟩⟩
theorem jfl {C:Cfg} (hC:∀ n,EvOk C (ev C n)) {f:FuncId} {args rs:List PV} {W:World} {vs:List Value} (h:Pf C f args rs) (hb:∀ b p,Hb.base b=some p→∃ cs T fr,p cs∧W.heap[b]? = some (.cells cs T fr)) (hr:Rl (memB W) noPh args vs) :
  Calls C.P f vs.toArray W fun e W'=>∃ m' φ' us,e = .returned (Gw.tup us)∧Rl m' φ' rs us∧RowKit.Below W.heap.size W W':=by
 obtain ⟨r,st',rfl,N,hN⟩:=h
 have hs:Sit ⟨W,memB W,Hb.feetOf []⟩ (memB W) noPh [] [] W:=⟨jqS hb,rfl,fun _ _=>rfl⟩
 refine ((hC N).call f args [] _ st' (hN N (Nat.le_refl N)) W (memB W) noPh [] vs hs hr).mono ?_
 rintro e W' ⟨m',φ',μ',_,hs',us,rfl,hus⟩
 refine ⟨m',φ',us,rfl,hus,Good.below hs'.good (fun b ⟨r,hr,_⟩=>by cases hr)⟩
theorem LvsP.of:∀ {zs:List (Gw.Lv × List PV)},(∀ (i:Nat) (z:Gw.Lv × List PV),zs[i]? = some z→LvP z.1 (.ag z.2))→LvsP (zs.map (·.1)) (zs.map fun z=>.ag z.2)
 |[],_=>by simp only [List.map_nil,LvsP]
 |z :: r,h=>by
  simp only [List.map_cons,LvsP]
  exact ⟨_,_,rfl,h 0 z rfl,LvsP.of fun i z' hz=>h (i + 1) z' (by simpa using hz)⟩
section
open Go.Gw Go.ChangeShapes Go.WideShapes Go.ChangeAt Go.RowKit
variable {H:Type} {enc:TypeId × Value→H} {P:Program} {W:World}
end
open Go Go.Am Go.Gw
open Go Go.Am Go.Gw
def ints (l:List Int):List PV:=l.map fun n=>iv n
def jr0 (f:Int→Int):SO:=.box 87 [iv (f 0),iv (f 1),iv (f 2),iv (f 3)]
end Go.Proofs.YtljnahbgfmflaaaGreatDoor

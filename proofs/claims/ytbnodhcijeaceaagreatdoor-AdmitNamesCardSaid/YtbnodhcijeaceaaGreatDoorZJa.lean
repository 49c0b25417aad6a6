/- The law's entries, and a Conv that looks at them. -/
import Derived.Test.YtbnodhcijeaceaaGreatDoorZIt
import Derived.Test.YtbnodhcijeaceaaGreatDoorZRg
import Derived.LaidMore
import Derived.Lay
import Derived.Stop.LaidErr
import Derived.SevenTiedAt
import Derived.Shelf.Vars
set_option linter.all false
set_option maxHeartbeats 4000000
set_option maxRecDepth 1000000
namespace Go.Proofs.YtbnodhcijeaceaaGreatDoor
open Go Go.Am Go.Gw
variable{K:AEnd→Sto→Prop}{f:FuncId}{args rs:List PV}{b o:Nat}{st st1:Sto}{v:Value}{W:World}
theorem joZ(h:Finds C1 f [] [] fun r s=>r=.ret rs∧s=st1)(hp:rs.all (pur 8)=false)(hb:VBack [] st (.ret rs) st1 K):VCall C1 f [] st K:=j1b rfl (Finds.mono h (by rintro _ _ ⟨rfl,rfl⟩;exact⟨hp,hb⟩))
def axE(s:List UInt8)(t:Tm):En:=⟨1,0,s,t,tz,0,[],0,0,0,[]⟩
def twoT:Tm:=pi_ tNat (pi_ tNat tNat)
def jhV:List En:=[⟨5,0,nNat,so_ l1,tz,0,[],0,0,0,[j6p,j7C]⟩,⟨6,0,j6p,tNat,jrI,0,nNat,0,0,0,[]⟩,⟨6,0,j7C,pi_ tNat tNat,jrE,0,nNat,0,1,1,[]⟩,⟨7,1,nRec,recT,tz,0,nNat,0,0,0,[j6p,j7C]⟩,⟨2,0,nAdd,twoT,jt5,1,[],0,0,0,[]⟩,⟨2,0,nMul,twoT,jtw,2,[],0,0,0,[]⟩,axE [107] tNat,axE [112] (so_ l0),axE [104] (cq [112]),axE [105] (cq [112]),axE [113] (pi_ tNat (so_ l0)),axE [102] twoT]
theorem jnU:∃xs,EnsP jhV xs∧Pf C1 33 [] [.sl false 19 xs]:=by
 refine Finds.out (P:=EnsP jhV) (R:=fun xs=>.ret [.sl false 19 xs]) ?_
 obtain⟨xs,hx,hl⟩:=jnT;obtain⟨v0,_,rfl,p0,v1,_,rfl,p1,v2,_,rfl,p2,v3,_,rfl,p3,v4,_,rfl,p4,v5,_,rfl,p5,v6,_,rfl,p6,rfl⟩:=hx;obtain⟨rr,hrr,cr⟩:=j3t jlx;obtain⟨rt,hrt,ct⟩:=j3t jly;obtain⟨rs,hrs,cs⟩:=j3t joo;obtain⟨rp,hrp,cp⟩:=j3t jqx;obtain⟨rq,hrq,cq'⟩:=j3t jqy;have hrr':=hrr;obtain⟨rr1,rr2,rr3,rr4,rr5,rr6,rr7,rr8,rr9,rra,rrb,-,rfl,-⟩:=hrr'.open;have hrt':=hrt;obtain⟨rt1,rt2,rt3,rt4,rt5,rt6,rt7,rt8,rt9,rta,rtb,-,rfl,-⟩:=hrt'.open;have hrs':=hrs;obtain⟨rs1,rs2,rs3,rs4,rs5,rs6,rs7,rs8,rs9,rsa,rsb,-,rfl,-⟩:=hrs'.open;have hrp':=hrp;obtain⟨rp1,rp2,rp3,rp4,rp5,rp6,rp7,rp8,rp9,rpa,rpb,-,rfl,-⟩:=hrp'.open;have hrq':=hrq;obtain⟨rq1,rq2,rq3,rq4,rq5,rq6,rq7,rq8,rq9,rqa,rqb,-,rfl,-⟩:=hrq'.open;have p0':=p0;have p1':=p1;have p2':=p2;have p3':=p3;have p4':=p4;have p5':=p5;have p6':=p6;obtain⟨e0_0,e0_1,e0_2,e0_3,e0_4,e0_5,e0_6,e0_7,e0_8,e0_9,e0_10,e0_11,e0_12,e0_13,e0_14,e0_15,e0_16,e0_17,e0_18,e0_19,rfl,e0h⟩:=p0;obtain⟨e1_0,e1_1,e1_2,e1_3,e1_4,e1_5,e1_6,e1_7,e1_8,e1_9,e1_10,e1_11,e1_12,e1_13,e1_14,e1_15,e1_16,e1_17,e1_18,e1_19,rfl,e1h⟩:=p1;obtain⟨e2_0,e2_1,e2_2,e2_3,e2_4,e2_5,e2_6,e2_7,e2_8,e2_9,e2_10,e2_11,e2_12,e2_13,e2_14,e2_15,e2_16,e2_17,e2_18,e2_19,rfl,e2h⟩:=p2;obtain⟨e3_0,e3_1,e3_2,e3_3,e3_4,e3_5,e3_6,e3_7,e3_8,e3_9,e3_10,e3_11,e3_12,e3_13,e3_14,e3_15,e3_16,e3_17,e3_18,e3_19,rfl,e3h⟩:=p3;obtain⟨e4_0,e4_1,e4_2,e4_3,e4_4,e4_5,e4_6,e4_7,e4_8,e4_9,e4_10,e4_11,e4_12,e4_13,e4_14,e4_15,e4_16,e4_17,e4_18,e4_19,rfl,e4h⟩:=p4;obtain⟨e5_0,e5_1,e5_2,e5_3,e5_4,e5_5,e5_6,e5_7,e5_8,e5_9,e5_10,e5_11,e5_12,e5_13,e5_14,e5_15,e5_16,e5_17,e5_18,e5_19,rfl,e5h⟩:=p5;obtain⟨e6_0,e6_1,e6_2,e6_3,e6_4,e6_5,e6_6,e6_7,e6_8,e6_9,e6_10,e6_11,e6_12,e6_13,e6_14,e6_15,e6_16,e6_17,e6_18,e6_19,rfl,e6h⟩:=p6;have hE:EnsP jhV [.ag [iv 5,iv 0,sv nNat,iv e0_0,iv e0_1,sv e0_2,.sl e0_3 e0_4 e0_5,.sl e0_6 e0_7 e0_8,iv e0_9,iv e0_10,sv e0_11,.sl e0_12 e0_13 e0_14,.sl e0_15 e0_16 e0_17,iv 0,sv [],iv 0,iv 0,iv 0,.sl e0_18 e0_19 (svs [j6p,j7C])],.ag [iv 6,iv 0,sv j6p,iv e1_0,iv e1_1,sv e1_2,.sl e1_3 e1_4 e1_5,.sl e1_6 e1_7 e1_8,iv e1_9,iv e1_10,sv e1_11,.sl e1_12 e1_13 e1_14,.sl e1_15 e1_16 e1_17,iv 0,sv nNat,iv 0,iv 0,iv 0,.sl e1_18 e1_19 (svs [])],.ag [iv 6,iv 0,sv j7C,iv e2_0,iv e2_1,sv e2_2,.sl e2_3 e2_4 e2_5,.sl e2_6 e2_7 e2_8,iv e2_9,iv e2_10,sv e2_11,.sl e2_12 e2_13 e2_14,.sl e2_15 e2_16 e2_17,iv 0,sv nNat,iv 0,iv 1,iv 1,.sl e2_18 e2_19 (svs [])],.ag [iv 7,iv 1,sv nRec,iv rr1,iv rr2,sv rr3,.sl rr6 rr7 rr8,.sl rr9 rra rrb,iv e3_9,iv e3_10,sv e3_11,.sl e3_12 e3_13 e3_14,.sl e3_15 e3_16 e3_17,iv 0,sv nNat,iv 0,iv 0,iv 0,.sl e3_18 e3_19 (svs [j6p,j7C])],.ag [iv 2,iv 0,sv nAdd,iv rt1,iv rt2,sv rt3,.sl rt6 rt7 rt8,.sl rt9 rta rtb,iv e4_9,iv e4_10,sv e4_11,.sl e4_12 e4_13 e4_14,.sl e4_15 e4_16 e4_17,iv 1,sv [],iv 0,iv 0,iv 0,.sl e4_18 e4_19 (svs [])],.ag [iv 2,iv 0,sv nMul,iv rt1,iv rt2,sv rt3,.sl rt6 rt7 rt8,.sl rt9 rta rtb,iv e5_9,iv e5_10,sv e5_11,.sl e5_12 e5_13 e5_14,.sl e5_15 e5_16 e5_17,iv 2,sv [],iv 0,iv 0,iv 0,.sl e5_18 e5_19 (svs [])],.ag [iv 1,iv 0,sv [107],iv e6_0,iv e6_1,sv e6_2,.sl e6_3 e6_4 e6_5,.sl e6_6 e6_7 e6_8,iv e6_9,iv e6_10,sv e6_11,.sl e6_12 e6_13 e6_14,.sl e6_15 e6_16 e6_17,iv 0,sv [],iv 0,iv 0,iv 0,.sl e6_18 e6_19 (svs [])],.ag [iv 1,iv 0,sv [112],iv rs1,iv rs2,sv rs3,.sl rs6 rs7 rs8,.sl rs9 rsa rsb,iv 0,iv 0,sv [],.sl true 0 [],.sl true 0 [],iv 0,sv [],iv 0,iv 0,iv 0,.sl true 0 []],.ag [iv 1,iv 0,sv [104],iv rp1,iv rp2,sv rp3,.sl rp6 rp7 rp8,.sl rp9 rpa rpb,iv 0,iv 0,sv [],.sl true 0 [],.sl true 0 [],iv 0,sv [],iv 0,iv 0,iv 0,.sl true 0 []],.ag [iv 1,iv 0,sv [105],iv rp1,iv rp2,sv rp3,.sl rp6 rp7 rp8,.sl rp9 rpa rpb,iv 0,iv 0,sv [],.sl true 0 [],.sl true 0 [],iv 0,sv [],iv 0,iv 0,iv 0,.sl true 0 []],.ag [iv 1,iv 0,sv [113],iv rq1,iv rq2,sv rq3,.sl rq6 rq7 rq8,.sl rq9 rqa rqb,iv 0,iv 0,sv [],.sl true 0 [],.sl true 0 [],iv 0,sv [],iv 0,iv 0,iv 0,.sl true 0 []],.ag [iv 1,iv 0,sv [102],iv rt1,iv rt2,sv rt3,.sl rt6 rt7 rt8,.sl rt9 rta rtb,iv 0,iv 0,sv [],.sl true 0 [],.sl true 0 [],iv 0,sv [],iv 0,iv 0,iv 0,.sl true 0 []]]:=⟨_,_,rfl,p0',_,_,rfl,p1',_,_,rfl,p2',_,_,rfl,⟨rr1,rr2,rr3,rr6,rr7,rr8,rr9,rra,rrb,e3_9,e3_10,e3_11,e3_12,e3_13,e3_14,e3_15,e3_16,e3_17,e3_18,e3_19,rfl,hrr,e3h.2⟩,_,_,rfl,⟨rt1,rt2,rt3,rt6,rt7,rt8,rt9,rta,rtb,e4_9,e4_10,e4_11,e4_12,e4_13,e4_14,e4_15,e4_16,e4_17,e4_18,e4_19,rfl,hrt,e4h.2⟩,_,_,rfl,⟨rt1,rt2,rt3,rt6,rt7,rt8,rt9,rta,rtb,e5_9,e5_10,e5_11,e5_12,e5_13,e5_14,e5_15,e5_16,e5_17,e5_18,e5_19,rfl,hrt,e5h.2⟩,_,_,rfl,p6',_,_,rfl,⟨rs1,rs2,rs3,rs6,rs7,rs8,rs9,rsa,rsb,0,0,[],true,0,[],true,0,[],true,0,rfl,hrs,j5P,.inr ⟨rfl,rfl,rfl⟩,by simp[axE],by simp[axE],by simp[axE],by simp[axE]⟩,_,_,rfl,⟨rp1,rp2,rp3,rp6,rp7,rp8,rp9,rpa,rpb,0,0,[],true,0,[],true,0,[],true,0,rfl,hrp,j5P,.inr ⟨rfl,rfl,rfl⟩,by simp[axE],by simp[axE],by simp[axE],by simp[axE]⟩,_,_,rfl,⟨rp1,rp2,rp3,rp6,rp7,rp8,rp9,rpa,rpb,0,0,[],true,0,[],true,0,[],true,0,rfl,hrp,j5P,.inr ⟨rfl,rfl,rfl⟩,by simp[axE],by simp[axE],by simp[axE],by simp[axE]⟩,_,_,rfl,⟨rq1,rq2,rq3,rq6,rq7,rq8,rq9,rqa,rqb,0,0,[],true,0,[],true,0,[],true,0,rfl,hrq,j5P,.inr ⟨rfl,rfl,rfl⟩,by simp[axE],by simp[axE],by simp[axE],by simp[axE]⟩,_,_,rfl,⟨rt1,rt2,rt3,rt6,rt7,rt8,rt9,rta,rtb,0,0,[],true,0,[],true,0,[],true,0,rfl,hrt,j5P,.inr ⟨rfl,rfl,rfl⟩,by simp[axE],by simp[axE],by simp[axE],by simp[axE]⟩,rfl⟩
 dsimp only at hl;refine j00 Tryz.func33 rfl rfl rfl ?_;repeat'(first|refine gU ?_|refine joZ hl rfl (j1Y rfl ?_)|refine VIdx.mk _ rfl ?_|refine gX cr ?_|refine gX ct ?_|refine gX cs ?_|refine gX cp ?_|refine gX cq' ?_)<;>conv=>whnf
 exact jqW (xs:=[.ag [iv 5,iv 0,sv nNat,iv e0_0,iv e0_1,sv e0_2,.sl e0_3 e0_4 e0_5,.sl e0_6 e0_7 e0_8,iv e0_9,iv e0_10,sv e0_11,.sl e0_12 e0_13 e0_14,.sl e0_15 e0_16 e0_17,iv 0,sv [],iv 0,iv 0,iv 0,.sl e0_18 e0_19 (svs [j6p,j7C])],.ag [iv 6,iv 0,sv j6p,iv e1_0,iv e1_1,sv e1_2,.sl e1_3 e1_4 e1_5,.sl e1_6 e1_7 e1_8,iv e1_9,iv e1_10,sv e1_11,.sl e1_12 e1_13 e1_14,.sl e1_15 e1_16 e1_17,iv 0,sv nNat,iv 0,iv 0,iv 0,.sl e1_18 e1_19 (svs [])],.ag [iv 6,iv 0,sv j7C,iv e2_0,iv e2_1,sv e2_2,.sl e2_3 e2_4 e2_5,.sl e2_6 e2_7 e2_8,iv e2_9,iv e2_10,sv e2_11,.sl e2_12 e2_13 e2_14,.sl e2_15 e2_16 e2_17,iv 0,sv nNat,iv 0,iv 1,iv 1,.sl e2_18 e2_19 (svs [])],.ag [iv 7,iv 1,sv nRec,iv rr1,iv rr2,sv rr3,.sl rr6 rr7 rr8,.sl rr9 rra rrb,iv e3_9,iv e3_10,sv e3_11,.sl e3_12 e3_13 e3_14,.sl e3_15 e3_16 e3_17,iv 0,sv nNat,iv 0,iv 0,iv 0,.sl e3_18 e3_19 (svs [j6p,j7C])],.ag [iv 2,iv 0,sv nAdd,iv rt1,iv rt2,sv rt3,.sl rt6 rt7 rt8,.sl rt9 rta rtb,iv e4_9,iv e4_10,sv e4_11,.sl e4_12 e4_13 e4_14,.sl e4_15 e4_16 e4_17,iv 1,sv [],iv 0,iv 0,iv 0,.sl e4_18 e4_19 (svs [])],.ag [iv 2,iv 0,sv nMul,iv rt1,iv rt2,sv rt3,.sl rt6 rt7 rt8,.sl rt9 rta rtb,iv e5_9,iv e5_10,sv e5_11,.sl e5_12 e5_13 e5_14,.sl e5_15 e5_16 e5_17,iv 2,sv [],iv 0,iv 0,iv 0,.sl e5_18 e5_19 (svs [])],.ag [iv 1,iv 0,sv [107],iv e6_0,iv e6_1,sv e6_2,.sl e6_3 e6_4 e6_5,.sl e6_6 e6_7 e6_8,iv e6_9,iv e6_10,sv e6_11,.sl e6_12 e6_13 e6_14,.sl e6_15 e6_16 e6_17,iv 0,sv [],iv 0,iv 0,iv 0,.sl e6_18 e6_19 (svs [])],.ag [iv 1,iv 0,sv [112],iv rs1,iv rs2,sv rs3,.sl rs6 rs7 rs8,.sl rs9 rsa rsb,iv 0,iv 0,sv [],.sl true 0 [],.sl true 0 [],iv 0,sv [],iv 0,iv 0,iv 0,.sl true 0 []],.ag [iv 1,iv 0,sv [104],iv rp1,iv rp2,sv rp3,.sl rp6 rp7 rp8,.sl rp9 rpa rpb,iv 0,iv 0,sv [],.sl true 0 [],.sl true 0 [],iv 0,sv [],iv 0,iv 0,iv 0,.sl true 0 []],.ag [iv 1,iv 0,sv [105],iv rp1,iv rp2,sv rp3,.sl rp6 rp7 rp8,.sl rp9 rpa rpb,iv 0,iv 0,sv [],.sl true 0 [],.sl true 0 [],iv 0,sv [],iv 0,iv 0,iv 0,.sl true 0 []],.ag [iv 1,iv 0,sv [113],iv rq1,iv rq2,sv rq3,.sl rq6 rq7 rq8,.sl rq9 rqa rqb,iv 0,iv 0,sv [],.sl true 0 [],.sl true 0 [],iv 0,sv [],iv 0,iv 0,iv 0,.sl true 0 []],.ag [iv 1,iv 0,sv [102],iv rt1,iv rt2,sv rt3,.sl rt6 rt7 rt8,.sl rt9 rta rtb,iv 0,iv 0,sv [],.sl true 0 [],.sl true 0 [],iv 0,sv [],iv 0,iv 0,iv 0,.sl true 0 []]]) rfl rfl rfl rfl ⟨_,hE,rfl⟩
open Go Go.Am Go.Gw
def Tr.okB:Tr→Nat→Bool
 | .nil,_=>true
 | .nd _ _ l r d q,m=>(l.okB m&&r.okB m)&&decide (0≤d∧d≤m∧0≤q∧q≤m)
theorem Tr.okB_ok:∀{t:Tr}{m:Nat},t.okB m=true→t.ok m
 | .nil,_,_=>trivial
 | .nd _ _ l r d q,m,h=>by
  simp only[Tr.okB,Bool.and_eq_true,decide_eq_true_eq] at h;exact⟨Tr.okB_ok h.1.1,Tr.okB_ok h.1.2,h.2⟩
def jgC(s:List UInt8)(n:Int):Tr→Bool
 | .nil=>true
 | .nd _ _ l r _ _=>(l.okB 4000&&(r.okB 4000&&((putR s n l).okB 4000&&(putR s n r).okB 4000)))&&(jgC s n l&&jgC s n r)
theorem jbB{s:List UInt8}{n:Int}:∀{t:Tr},jgC s n t=true→jeL s n t
 | .nil,_=>trivial
 | .nd _ _ l r _ _,h=>by
  simp only[jgC,Bool.and_eq_true] at h;obtain⟨⟨h1,h2,h3,h4⟩,h5,h6⟩:=h;exact⟨Tr.okB_ok h1,Tr.okB_ok h2,Tr.okB_ok h3,Tr.okB_ok h4,jbB h5,jbB h6⟩
def Tr.allB(n:Nat):Tr→Bool
 | .nil=>true
 | .nd _ i l r _ _=>decide (0≤i∧i<n)&&(l.allB n&&r.allB n)
theorem Tr.allB_find{n:Nat}{s:List UInt8}:∀{t:Tr},t.allB n=true→(ja3 s t).allB n=true
 | .nil,_=>rfl
 | .nd s1 j l r d q,h=>by
  have h':=h;simp only[Tr.allB,Bool.and_eq_true] at h';unfold ja3;split
  ·exact h
  ·split
   ·exact Tr.allB_find h'.2.1
   ·exact Tr.allB_find h'.2.2
theorem Tr.allB_ok{n:Nat}{s:List UInt8}{t:Tr}(h:t.allB n=true)(i:Int)(hg:getR s t=some i):0≤i∧i<n:=by
 have hf:=Tr.allB_find (s:=s) h;unfold getR at hg;cases hF:ja3 s t with
 |nil=>
  rw[hF] at hg;cases hg
 |nd s1 j l r d q=>
  rw[hF] at hg hf;cases hg;simp only[Tr.allB,Bool.and_eq_true,decide_eq_true_eq] at hf;exact hf.1
def nvB(E:Nv):Bool:=E.tr.allB E.es.length&&(E.es.all j1u&&Nat.ble E.es.length 100000)
theorem jtA{E:Nv}(h:nvB E=true):NvOk E:=by
 simp only[nvB,Bool.and_eq_true] at h;exact⟨fun s i hg=>Tr.allB_ok h.1 i hg,fun e he=>List.all_eq_true.1 h.2.1 e he,Nat.le_of_ble_eq_true h.2.2⟩
def jph:Nv→List En→Bool
 |_,[]=>true
 |E,e::r=>(j1u e&&((getR e.nm E.tr).isNone&&(jgC e.nm E.es.length E.tr&&(Nat.blt E.es.length 100000&&nvB (E.push e)))))&&jph (E.push e) r
theorem jdJ:∀{es:List En}{E:Nv},jph E es=true→jfm E es
 |[],_,_=>trivial
 |e::r,E,h=>by
  simp only[jph,Bool.and_eq_true] at h;obtain⟨⟨h1,h2,h3,h4,h5⟩,h6⟩:=h;exact⟨⟨h1,by simpa using h2,jbB h3,by simpa using h4,jtA h5⟩,jdJ h6⟩
theorem jrc:jph nv0 jhV=true:=by kernel_rfl
def nv14:Nv:=jfl nv0 jhV
theorem j7a(h:Finds C1 f args [] fun r s=>r=.ret rs∧s=st1)(ha:args.all (pur 8)=true)(hp:rs.all (pur 8)=false)(hb:VBack [] st (.ret rs) st1 K):VCall C1 f args st K:=j1b ha (Finds.mono h (by rintro _ _ ⟨rfl,rfl⟩;exact⟨hp,hb⟩))
open Go Go.Am Go.Gw
open Go Go.Am Go.Gw
def jsB:Nat→Tm
 |0=>cq j6p
 |n+1=>ap (cq j7C) (jsB n)
def tA1:Tm:=la_ tNat (ap (ap (cq [102]) (vr 0)) (vr 0))
def tB1:Tm:=la_ tNat (ap (ap (cq [102]) (cq j6p)) (vr 0))
def tB2:Tm:=ap (cq [102]) (cq j6p)
def tK:Tm:=ap (cq nAdd) (cq [107])
def tS:Tm:=ap (ap (cq nAdd) (jsB 2)) (jsB 1)
def tL:Tm:=pi_ tNat (ap (cq [113]) (vr 0))
def out1(r:Option (AEnd×Sto)):PV:=match r with
 |some (.ret [v],_)=>v
 |_=>.un
def is1(r:Option (AEnd×Sto)):Bool:=match r with
 |some (.ret [_],_)=>true
 |_=>false
noncomputable def juu(n:Int):PV:=out1 ((ev C1 60).call 46 [iv n] [])
noncomputable def lpV:PV:=out1 ((ev C1 60).call 52 [iv 0] [])
noncomputable def lnV:PV:=out1 ((ev C1 60).call 53 [iv 0] [])
noncomputable def liV:PV:=out1 ((ev C1 60).call 51 [lpV,lnV] [])
def juA(v:PV):Bool:=match v with
 | .ag [.sc (.int .i64 _),.sc (.int .i64 _),.sl _ _ _]=>true
 |_=>false
def isB(q:Bool)(r:Option (AEnd×Sto)):Bool:=match r with
 |some (.ret [.sc (.bool p)],_)=>p == q
 |_=>false
open Go Go.Am Go.Gw
open Go Go.Am
def memB(W:World):Hb.Mem:=fun b o=>match W.heap[b]? with
 |some (.cells c _ _)=>c[o]?
 |_=>none
theorem jo2(h:Gw.Rd (Gw.memOf W) b o v):memB W b o=some v:=by
 obtain⟨c,T,fr,h1,h2⟩:=h;unfold Gw.memOf at h1;unfold memB;rw[h1];exact h2
theorem jq6(h:memB W b o=some v):∃c T fr,W.heap[b]?=some (.cells c T fr)∧c[o]?=some v:=by
 unfold memB at h;split at h
 ·rename_i c T fr e;exact⟨c,T,fr,e,h⟩
 ·cases h
theorem ju8(hb:∀b p,Hb.base b=some p→∃cs T fr,p cs∧W.heap[b]?=some (.cells cs T fr)):Hb.Good ⟨W,memB W,Hb.feetOf []⟩ W (memB W) []:=
 ⟨rfl,rfl,rfl,Nat.le_refl _,fun _ _ _=>rfl,fun b o v h=>jq6 h,Hb.Mem.le.refl _,fun _ _ _ h=>.inl h,by simp,by simp,.nil,fun b cs h=>⟨hb b cs h,by simp⟩⟩
theorem jaJ{C:Cfg}(hC:∀n,EvOk C (ev C n)){vs:List Value}(h:Pf C f args rs)(hb:∀b p,Hb.base b=some p→∃cs T fr,p cs∧W.heap[b]?=some (.cells cs T fr))(hr:Rl (memB W) noPh args vs):
  Calls C.P f vs.toArray W fun e W'=>∃m' φ' us,e=.returned (Gw.tup us)∧Rl m' φ' rs us∧RowKit.Below W.heap.size W W':=by
 obtain⟨r,st',rfl,N,hN⟩:=h;have hs:Sit ⟨W,memB W,Hb.feetOf []⟩ (memB W) noPh [] [] W:=⟨ju8 hb,rfl,fun _ _=>rfl⟩
 refine((hC N).call f args [] _ st' (hN N (Nat.le_refl N)) W (memB W) noPh [] vs hs hr).mono ?_;rintro e W' ⟨m',φ',μ',_,hs',us,rfl,hus⟩;refine⟨m',φ',us,rfl,hus,Good.below hs'.good (fun b ⟨r,hr,_⟩=>by cases hr)⟩
theorem LvsP.of:∀{zs:List (Gw.Lv×List PV)},(∀(i:Nat) (z:Gw.Lv×List PV),zs[i]?=some z→LvP z.1 (.ag z.2))→LvsP (zs.map (·.1)) (zs.map fun z=>.ag z.2)
 |[],_=>by simp only[List.map_nil,LvsP]
 |z::r,h=>by
  simp only[List.map_cons,LvsP];exact⟨_,_,rfl,h 0 z rfl,LvsP.of fun i z' hz=>h (i+1) z' (by simpa using hz)⟩
section
open Go.Gw Go.ChangeShapes Go.WideShapes Go.ChangeAt Go.RowKit
variable{H:Type}{enc:TypeId×Value→H}{P:Program}{W:World}
theorem jtu{T S I:TypeId}{f0 f1 f2:Field}(hT:P.underlying T=some (.struct #[f0,f1,f2]))(hS:P.underlying S=some (.slice T))(hI:P.underlying I=some (.int .i64))(hc:P.cellsOf T=3)(hcS:P.cellsOf S=1)(hcI:P.cellsOf I=1)(hby:P.bytesOf T=40)
  (e0:f0.type=I) (o0:f0.offset=0) (e1:f1.type=I) (o1:f1.offset=1) (e2:f2.type=S) (o2:f2.offset=2) :
  ∀(fuel:Nat) (cs:List Value) (x:DataW H×List MemPlace),DataW.trod enc P W 0 (fun _=>true) true fuel T cs=some x→(∀n∈x.1.weights P T,n≤reachBytes)→∃l ps,LvP l (.ag ps)∧Rl (memB W) noPh ps cs∧ps.all cell=true∧cs.length=3:=by
 intro fuel
 induction fuel using Nat.strongRecOn with
 |_ fuel ih=>
  intro cs x h hw;obtain⟨xs,n,rfl,rfl,hlen,hxs,hf⟩:=DataW.trod_struct hT h;rw[hc] at hlen;obtain⟨c0,c1,c2,rfl⟩:∃c0 c1 c2,cs=[c0,c1,c2]:=by
   match cs,hlen with
   |[c0,c1,c2],_=>exact⟨c0,c1,c2,rfl⟩
  obtain⟨y0,y1,y2,rfl⟩:∃y0 y1 y2,xs=[y0,y1,y2]:=by
   match xs,hxs with
   |[y0,y1,y2],_=>exact⟨y0,y1,y2,rfl⟩
  have g0:=hf 0 f0 rfl;have g1:=hf 1 f1 rfl;have g2:=hf 2 f2 rfl;rw[e0,o0,hcI] at g0;rw[e1,o1,hcI] at g1;rw[e2,o2,hcS] at g2
  replace g0:DataW.trod enc P W 0 (fun _=>true) true n I [c0]=some y0:=g0
  replace g1:DataW.trod enc P W 0 (fun _=>true) true n I [c1]=some y1:=g1
  replace g2:DataW.trod enc P W 0 (fun _=>true) true n S [c2]=some y2:=g2
  obtain⟨k,hk,_,wk⟩:=DataW.trod_int hI g0;obtain⟨q,hq,_,wq⟩:=DataW.trod_int hI g1;cases hk;cases hq;have hw2:∀n∈y2.1.weights P S,n≤reachBytes:=fun u hu=>hw u (by
   simp only[DataW.weights,hT,List.map_cons,List.map_nil];refine DataW.weights_mem_each (j:=2) (t:=S) (d:=y2.1) ?_ rfl u hu;simp[e2])
  rcases DataW.trod_slice hS g2 with⟨hn,_⟩|⟨a,len,cap,elems,rest,n',rfl,hcs,rfl,_,hl,hmax,hel,hget,hsp,_⟩
  ·cases hn;refine⟨.mk k q [],[iv k,iv q,.sl false 3 []],?_,.cons (.sc rfl) (.cons (.sc rfl) (.cons ?_ .nil)),rfl,rfl⟩
   ·simp only[LvP,LvsP];exact⟨_,_,_,rfl,.inl rfl,rfl,by simp⟩
   ·exact R.sl (xs:=[]) (b:=0) (off:=0) (g:=fun _=>[]) (by simp) (by simp) (by unfold maxLen;omega) (by simp) (by simp) (by simp) (by simp)
  ·cases hcs;have hb:=hw2 ((elems.length+rest.length)*40) (by simp[DataW.weights,hS,hby])
   unfold reachBytes at hb;have hone:∀i,i<len→∃z:(Lv×List PV)×List Value,(LvP z.1.1 (.ag z.1.2)∧Rl (memB W) noPh z.1.2 z.2∧z.1.2.all cell=true∧z.2.length=3∧(∀j v,z.2[j]?=some v→memB W a.block (a.off+i*3+j)=some v))∧(i=0→a.spot=none):=fun i hi=>by
    have h1:=hget i hi;rw[hc,List.getElem?_eq_getElem (by omega)] at h1
    obtain⟨cs',h2,h3⟩:=Option.bind_eq_some_iff.1 h1;obtain⟨l,ps,hlv,hps,hcell',hl3'⟩:=ih n' (by omega) cs' _ h3 (fun u hu=>hw2 u (by
     simp only[DataW.weights,hS,List.mem_cons,List.mem_append];exact .inr (.inl (weightsAll_mem (List.mem_map.2 ⟨_,List.getElem_mem (by omega),rfl⟩) hu))))
    obtain⟨_,hl3,hcell⟩:=World.cells?_some h2;have hrd:∀j,(hj:j<3)→Gw.Rd (memOf W) a.block (a.off+i*3+j) (cs'[j]'(by omega))∧(j=0→(a.add (i*3)).spot=none):=fun j hj=>by
     have h5:=hcell j hj;rw[List.getElem?_eq_getElem (by omega)] at h5
     have h4:=jon (a:=a.add (i*3)) (i:=j) h5;rw[add_block,jme] at h4;exact h4
    refine⟨((l,ps),cs'),⟨hlv,hps,hcell',hl3',fun j v hj=>?_⟩,fun hi0=>?_⟩
    ·obtain⟨hjl,hv⟩:=List.getElem?_eq_some_iff.1 hj;have:=(hrd j (by simp only at hjl;omega)).1
     simp only at hv;rw[hv] at this;exact jo2 this
    ·have:=(hrd 0 (by omega)).2 rfl
     subst hi0;simpa[Addr.add] using this
   obtain⟨zs,hls,hat⟩:=jhW hone;have hzl:(zs.map fun z=>PV.ag z.1.2).length=len:=by simp[hls]
   refine⟨.mk k q (zs.map (·.1.1)),[iv k,iv q,.sl false 3 (zs.map fun z=>.ag z.1.2)],?_,.cons (.sc rfl) (.cons (.sc rfl) (.cons ?_ .nil)),rfl,rfl⟩
   ·simp only[LvP];refine⟨_,_,_,rfl,.inl rfl,?_,by simp[hls];omega⟩
    have:=LvsP.of (zs:=zs.map (·.1)) (fun i z hz=>by
     rw[List.getElem?_map] at hz;obtain⟨z',hz',rfl⟩:=Option.map_eq_some_iff.1 hz;exact(hat i z' hz').1.1)
    simpa[Function.comp_def] using this
   ·have hsl:=R.sl (m:=memB W) (φ:=noPh) (full:=false) (sz:=3) (xs:=zs.map fun z=>PV.ag z.1.2) (a:=some a) (cap:=cap) a.block a.off (fun i=>((zs[i]?).map (·.2)).getD []) (fun hne=>?_) (by omega) hmax (by simp) (fun i x hx=>?_) (fun i x j c v hx hc' hv=>?_) (fun e=>by cases e)
    ·rwa [hzl] at hsl
    ·have hpos:0<len:=by
      rw[←hzl];exact List.length_pos_iff.2 hne
     have hspot:=(hat 0 _ (List.getElem?_eq_getElem (by omega))).2 rfl
     obtain⟨b,off,spot⟩:=a;obtain rfl:spot=none:=hspot;rfl
    ·rw[List.getElem?_map] at hx;obtain⟨z,hz,rfl⟩:=Option.map_eq_some_iff.1 hx;obtain⟨⟨_,h2,h3,h4,h5⟩,_⟩:=hat i z hz;simp only[hz,Option.map_some,Option.getD_some];exact⟨by simp only[PV.cells];rw[h2.1,h4],h4,h5,h3⟩
    ·rw[List.getElem?_map] at hx;obtain⟨z,hz,rfl⟩:=Option.map_eq_some_iff.1 hx;obtain⟨⟨_,h2,h3,h4,h5⟩,_⟩:=hat i z hz;simp only[hz,Option.map_some,Option.getD_some] at hv;exact h2.2 j c v hc' hv
end
open Go Go.Am
section
open Go.Gw Go.ChangeShapes Go.WideShapes Go.ChangeAt Go.RowKit
variable{H:Type}{enc:TypeId×Value→H}{P:Program}{W:World}
theorem jaq{α:Type}{V:α→PV→Prop}{T S:TypeId}{k by_:Nat}(hS:P.underlying S=some (.slice T))(hc:P.cellsOf T=k)(hk:0<k)(hby:P.bytesOf T=by_)
  (n:Nat) (c:Value) (y:DataW H×List MemPlace) (h:DataW.trod enc P W 0 (fun _=>true) true n S [c]=some y) (hw:∀u∈y.1.weights P S,u≤reachBytes)
  (ih:∀n'<n,∀(cs:List Value) (x:DataW H×List MemPlace),DataW.trod enc P W 0 (fun _=>true) true n' T cs=some x→(∀u∈x.1.weights P T,u≤reachBytes)→∃a ps,V a (.ag ps)∧Rl (memB W) noPh ps cs∧ps.all cell=true∧cs.length=k) :
  ∃zs:List (α×List PV),(∀(i:Nat) (z:α×List PV),zs[i]?=some z→V z.1 (.ag z.2))∧R (memB W) noPh (.sl false k (zs.map fun z=>.ag z.2)) c∧zs.length*by_≤reachBytes:=by
 rcases DataW.trod_slice hS h with⟨hn,_⟩|⟨a,len,cap,elems,rest,n',rfl,hcs,rfl,_,hl,hmax,hel,hget,hsp,_⟩
 ·cases hn;refine⟨[],by simp,?_,by simp⟩
  exact R.sl (xs:=[]) (b:=0) (off:=0) (g:=fun _=>[]) (by simp) (by simp) (by unfold maxLen;omega) (by simp) (by simp) (by simp) (by simp)
 ·cases hcs;have hb:=hw ((elems.length+rest.length)*by_) (by simp[DataW.weights,hS,hby])
  have hone:∀i,i<len→∃z:(α×List PV)×List Value,(V z.1.1 (.ag z.1.2)∧Rl (memB W) noPh z.1.2 z.2∧z.1.2.all cell=true∧z.2.length=k∧(∀j v,z.2[j]?=some v→memB W a.block (a.off+i*k+j)=some v))∧(i=0→a.spot=none):=fun i hi=>by
   have h1:=hget i hi;rw[hc,List.getElem?_eq_getElem (by omega)] at h1
   obtain⟨cs',h2,h3⟩:=Option.bind_eq_some_iff.1 h1;obtain⟨l,ps,hlv,hps,hcell',hl3'⟩:=ih n' (by omega) cs' _ h3 (fun u hu=>hw u (by
    simp only[DataW.weights,hS,List.mem_cons,List.mem_append];exact .inr (.inl (weightsAll_mem (List.mem_map.2 ⟨_,List.getElem_mem (by omega),rfl⟩) hu))))
   obtain⟨_,hl3,hcell⟩:=World.cells?_some h2;have hrd:∀j,(hj:j<k)→Gw.Rd (memOf W) a.block (a.off+i*k+j) (cs'[j]'(by omega))∧(j=0→(a.add (i*k)).spot=none):=fun j hj=>by
    have h5:=hcell j hj;rw[List.getElem?_eq_getElem (by omega)] at h5
    have h4:=jon (a:=a.add (i*k)) (i:=j) h5;rw[add_block,jme] at h4;exact h4
   refine⟨((l,ps),cs'),⟨hlv,hps,hcell',hl3',fun j v hj=>?_⟩,fun hi0=>?_⟩
   ·obtain⟨hjl,hv⟩:=List.getElem?_eq_some_iff.1 hj;have:=(hrd j (by simp only at hjl;omega)).1
    simp only at hv;rw[hv] at this;exact jo2 this
   ·have:=(hrd 0 (by omega)).2 rfl
    subst hi0;simpa[Addr.add] using this
  obtain⟨zs,hls,hat⟩:=jhW hone;have hzl:(zs.map fun z=>PV.ag z.1.2).length=len:=by simp[hls]
  refine⟨zs.map (·.1),fun i z hz=>?_,?_,?_⟩
  ·rw[List.getElem?_map] at hz;obtain⟨z',hz',rfl⟩:=Option.map_eq_some_iff.1 hz;exact(hat i z' hz').1.1
  ·rw[List.map_map];have hsl:=R.sl (m:=memB W) (φ:=noPh) (full:=false) (sz:=k) (xs:=zs.map fun z=>PV.ag z.1.2) (a:=some a) (cap:=cap) a.block a.off (fun i=>((zs[i]?).map (·.2)).getD []) (fun hne=>?_) (by omega) hmax (by simp) (fun i x hx=>?_) (fun i x j c v hx hc' hv=>?_) (fun e=>by cases e)
   ·rw[hzl] at hsl;exact hsl
   ·have hpos:0<len:=by
     rw[←hzl];exact List.length_pos_iff.2 hne
    have hspot:=(hat 0 _ (List.getElem?_eq_getElem (by omega))).2 rfl
    obtain⟨b,off,spot⟩:=a;obtain rfl:spot=none:=hspot;rfl
   ·rw[List.getElem?_map] at hx;obtain⟨z,hz,rfl⟩:=Option.map_eq_some_iff.1 hx;obtain⟨⟨_,h2,h3,h4,h5⟩,_⟩:=hat i z hz;simp only[hz,Option.map_some,Option.getD_some];exact⟨by simp only[PV.cells];rw[h2.1,h4],h4,h5,h3⟩
   ·rw[List.getElem?_map] at hx;obtain⟨z,hz,rfl⟩:=Option.map_eq_some_iff.1 hx;obtain⟨⟨_,h2,h3,h4,h5⟩,_⟩:=hat i z hz;simp only[hz,Option.map_some,Option.getD_some] at hv;exact h2.2 j c v hc' hv
  ·rw[List.length_map,hls,←hel];exact Nat.le_trans (Nat.mul_le_mul_right _ (Nat.le_add_right _ _)) hb
theorem TmsP.of:∀{zs:List (Tm×List PV)},(∀(i:Nat) (z:Tm×List PV),zs[i]?=some z→TmP z.1 (.ag z.2))→TmsP (zs.map (·.1)) (zs.map fun z=>.ag z.2)
 |[],_=>by simp only[List.map_nil,TmsP]
 |z::r,h=>by
  simp only[List.map_cons,TmsP];exact⟨_,_,rfl,h 0 z rfl,TmsP.of fun i z' hz=>h (i+1) z' (by simpa using hz)⟩
theorem jtQ{T S L SL I B:TypeId}{f0 f1 f2 f3 f4 g0 g1 g2:Field}(hT:P.underlying T=some (.struct #[f0,f1,f2,f3,f4]))(hS:P.underlying S=some (.slice T))(hL:P.underlying L=some (.struct #[g0,g1,g2]))(hSL:P.underlying SL=some (.slice L))(hI:P.underlying I=some (.int .i64))(hB:P.underlying B=some .string)
  (hc:P.cellsOf T=5) (hcS:P.cellsOf S=1) (hcL:P.cellsOf L=3) (hcSL:P.cellsOf SL=1) (hcI:P.cellsOf I=1) (hcB:P.cellsOf B=1) (hby:P.bytesOf T=80) (hbyL:P.bytesOf L=40)
  (e0:f0.type=I) (o0:f0.offset=0) (e1:f1.type=I) (o1:f1.offset=1) (e2:f2.type=B) (o2:f2.offset=2) (e3:f3.type=SL) (o3:f3.offset=3) (e4:f4.type=S) (o4:f4.offset=4)
  (a0:g0.type=I) (b0:g0.offset=0) (a1:g1.type=I) (b1:g1.offset=1) (a2:g2.type=SL) (b2:g2.offset=2) :
  ∀(fuel:Nat) (cs:List Value) (x:DataW H×List MemPlace),DataW.trod enc P W 0 (fun _=>true) true fuel T cs=some x→(∀n∈x.1.weights P T,n≤reachBytes)→∃t ps,TmP t (.ag ps)∧Rl (memB W) noPh ps cs∧ps.all cell=true∧cs.length=5:=by
 intro fuel
 induction fuel using Nat.strongRecOn with
 |_ fuel ih=>
  intro cs x h hw;obtain⟨xs,n,rfl,rfl,hlen,hxs,hf⟩:=DataW.trod_struct hT h;rw[hc] at hlen;obtain⟨c0,c1,c2,c3,c4,rfl⟩:∃c0 c1 c2 c3 c4,cs=[c0,c1,c2,c3,c4]:=by
   match cs,hlen with
   |[c0,c1,c2,c3,c4],_=>exact⟨c0,c1,c2,c3,c4,rfl⟩
  obtain⟨y0,y1,y2,y3,y4,rfl⟩:∃y0 y1 y2 y3 y4,xs=[y0,y1,y2,y3,y4]:=by
   match xs,hxs with
   |[y0,y1,y2,y3,y4],_=>exact⟨y0,y1,y2,y3,y4,rfl⟩
  have g0:=hf 0 f0 rfl;have g1:=hf 1 f1 rfl;have g2:=hf 2 f2 rfl;have g3:=hf 3 f3 rfl;have g4:=hf 4 f4 rfl;rw[e0,o0,hcI] at g0;rw[e1,o1,hcI] at g1;rw[e2,o2,hcB] at g2;rw[e3,o3,hcSL] at g3;rw[e4,o4,hcS] at g4
  replace g0:DataW.trod enc P W 0 (fun _=>true) true n I [c0]=some y0:=g0
  replace g1:DataW.trod enc P W 0 (fun _=>true) true n I [c1]=some y1:=g1
  replace g2:DataW.trod enc P W 0 (fun _=>true) true n B [c2]=some y2:=g2
  replace g3:DataW.trod enc P W 0 (fun _=>true) true n SL [c3]=some y3:=g3
  replace g4:DataW.trod enc P W 0 (fun _=>true) true n S [c4]=some y4:=g4
  obtain⟨k,hk,_,wk⟩:=DataW.trod_int hI g0;obtain⟨q,hq,_,wq⟩:=DataW.trod_int hI g1;obtain⟨s,hs,rfl,_⟩:=DataW.trod_string hB g2;cases hk;cases hq;cases hs;have hwj:∀(j:Nat) (t:TypeId) (d:DataW H),([f0.type,f1.type,f2.type,f3.type,f4.type]:List TypeId)[j]?=some t→([y0.1,y1.1,.lit (.string s.data.toList),y3.1,y4.1]:List (DataW H))[j]?=some d→∀n∈d.weights P t,n≤reachBytes:=fun j t d hj hd u hu=>hw u (by
   simp only[DataW.weights,hT,List.map_cons,List.map_nil];exact DataW.weights_mem_each (j:=j) hj hd u hu)
  have hsl:s.data.toList.length≤reachBytes:=hwj 2 B _ (by simp[e2]) rfl _ (by simp[DataW.weights])
  have hw3:=hwj 3 SL y3.1 (by simp[e3]) rfl
  have hw4:=hwj 4 S y4.1 (by simp[e4]) rfl
  obtain⟨ls,hls1,hls2,hls3⟩:=jaq (V:=LvP) hSL hcL (by omega) hbyL n c3 y3 g3 hw3 (fun n' _ cs' x' hx' hw'=>jtu hL hSL hI hcL hcSL hcI hbyL a0 b0 a1 b1 a2 b2 n' cs' x' hx' hw')
  obtain⟨ts,hts1,hts2,hts3⟩:=jaq (V:=TmP) hS hc (by omega) hby n c4 y4 g4 hw4 (fun n' hn' cs' x' hx' hw'=>ih n' (by omega) cs' x' hx' hw')
  unfold reachBytes at hsl hls3 hts3;have hqi:i64 q:=by
   have:(Lit.int .i64 q).wf=true:=wq;simp[Lit.wf,IntKind.min,IntKind.max,IntKind.signed,IntKind.bits] at this;unfold i64;omega
  refine⟨.mk k q s.data.toList (ls.map (·.1)) (ts.map (·.1)),[iv k,iv q,sv s.data.toList,.sl false 3 (ls.map fun z=>.ag z.2),.sl false 5 (ts.map fun z=>.ag z.2)],?_,.cons (.sc rfl) (.cons (.sc rfl) (.cons ?_ (.cons hls2 (.cons hts2 .nil)))),rfl,rfl⟩
  ·simp only[TmP];exact⟨_,_,_,_,_,_,rfl,.inl rfl,LvsP.of hls1,by rw[List.length_map];omega,.inl rfl,TmsP.of hts1,by rw[List.length_map];omega,by omega,hqi⟩
  ·rw[j9Y s];exact .sc rfl
end
open Go Go.ChangeShapes Go.WideShapes Go.ChangeAt Go.RowKit
theorem jrC:ownKnob Tryz.prog.godebug=none:=by kernel_rfl
theorem joy:laidOutB Tryz.prog=true:=by kernel_rfl
theorem jsH:Tryz.prog.readableRec 3=true∧3<Tryz.prog.types.size:=⟨by kernel_rfl,of_decide_eq_true (by kernel_rfl)⟩
theorem joK : "*errors.errorString" = "*" ++ "errors.errorString" :=rfl
theorem jrB (u:TypeId) (h:Tryz.prog.typeName? 3 u=some "*errors.errorString"):u=367:=
 typeName_ptr_named (nm:= "errors.errorString") (by rw[←joK];kernel_rfl) (by kernel_rfl) (by decide) u (by rw[←joK];exact h)
theorem j7z{n:String}{g:Nat}{cs:Array Value}(hg:Tryz.prog.globalNamed n=some g)(h:W.var? Tryz.prog n=some cs):∃T fr,W.heap[g]?=some (.cells cs T fr):=by
 unfold World.var? at h;rw[hg,Option.bind_some] at h;split at h
 ·rename_i c T fr e;cases h;exact⟨T,fr,e⟩
 ·cases h
theorem jo1(hsh:W.ShapedOpen Tryz.prog):∃cs T fr,(∃m,cs = #[.int .i64 m])∧W.heap[3]?=some (.cells cs T fr):=by
 have hg:3<Tryz.prog.globals.size:=of_decide_eq_true (by kernel_rfl)
 have h0:((begin Tryz.prog (fun _ _=>0) default).world.heap[3]?).bind Obj.row?=some (#[.int .i64 0],3):=by kernel_rfl
 obtain⟨m,hm⟩:=cell_of_shapedOpen_int hsh hg h0 rfl (by kernel_rfl) (by kernel_rfl) Tryz.underlying3
 obtain⟨cs,hh,hs,hr⟩:=hsh.1 _ _ _ hg h0;refine⟨cs,_,_,⟨m,?_⟩,hh⟩;have h1:cs.size=1:=hs;simp only[World.cell?,hh] at hm;obtain⟨l⟩:=cs;match l,h1 with
 |[x],_=>
  simp at hm;rw[hm]
theorem base_of(h:laidMetH Tryz.prog Rows.convFuelRow.laid W)(hsh:W.ShapedOpen Tryz.prog):∀b p,Hb.base b=some p→∃cs T fr,p cs∧W.heap[b]?=some (.cells cs T fr):=by
 rw[MakeChecks.laidMetH_plain _ _ _ (by kernel_rfl)] at h
 have h2:laidMet Tryz.prog (("internal/strconv.uint64pow10",Lib.tabData .u64 Lib.pow10Tab)::Rows.convFuelRow.laid.drop 3) W:=laidMet.tail (laidMet.tail h)
 have h4:laidMet Tryz.prog (("strconv.ErrRange",Rows.laid_strconv_ErrRange)::Rows.convFuelRow.laid.drop 5) W:=laidMet.tail (laidMet.tail h2)
 have h5:laidMet Tryz.prog (("strconv.ErrSyntax",Rows.laid_strconv_ErrSyntax)::Rows.convFuelRow.laid.drop 6) W:=laidMet.tail h4
 have ht:=Lib.tabIs_of_head (g:=0) (by kernel_rfl) (by kernel_rfl) Tryz.underlying325 Tryz.underlying296 (by kernel_rfl) (by kernel_rfl) h2
 obtain⟨a4,s4,hv4,-⟩:=laid_sentinel (g:=5) h4 (by kernel_rfl) (by kernel_rfl) Tryz.underlying245 jrB Tryz.underlying367 Tryz.underlying369 rfl rfl Tryz.underlying9 (by kernel_rfl) (by kernel_rfl)
 obtain⟨a5,s5,hv5,-⟩:=laid_sentinel (g:=4) h5 (by kernel_rfl) (by kernel_rfl) Tryz.underlying245 jrB Tryz.underlying367 Tryz.underlying369 rfl rfl Tryz.underlying9 (by kernel_rfl) (by kernel_rfl)
 intro b p hb;unfold Hb.base at hb;split at hb
 ·rename_i e;subst e;cases hb;obtain⟨T,fr,e⟩:=j7z (by kernel_rfl) ht
  exact⟨_,T,fr,rfl,e⟩
 ·split at hb
  ·rename_i e;subst e;cases hb;exact jo1 hsh
  ·split at hb
   ·rename_i e;subst e;cases hb;obtain⟨T,fr,e⟩:=j7z (by kernel_rfl) hv5
    exact⟨_,T,fr,⟨_,_,rfl⟩,e⟩
   ·split at hb
    ·rename_i e;subst e;cases hb;obtain⟨T,fr,e⟩:=j7z (by kernel_rfl) hv4
     exact⟨_,T,fr,⟨_,_,rfl⟩,e⟩
    ·cases hb
section
variable{H:Type}{enc:TypeId×Value→H}{W:World}{r:Reach}{b0:Nat}{v:Value}{d:DataW H}{ps:List MemPlace}
theorem jso(hv:Value.okWide Tryz.prog W r b0 3 v)(h:DataW.Trod enc Tryz.prog W 0 (fun _=>true) true 3 v d ps):∃n,Am.R (memB W) Am.noPh (iv n) v∧Gw.i64 n:=by
 obtain⟨a0,rfl,rfl,rfl,w0⟩:=open_int Tryz.underlying3 hv h;refine⟨a0,.sc rfl,?_⟩;simp[Lit.wf,IntKind.min,IntKind.max,IntKind.signed,IntKind.bits] at w0;unfold Gw.i64;omega
end
open Go Go.Am Go.Gw
open Go Go.Am Go.Gw
def ints(l:List Int):List PV:=l.map fun n=>iv n
def juB(f:Int→Int):SO:=.box 185 [iv (f 0),iv (f 1),iv (f 2),iv (f 3)]
end Go.Proofs.YtbnodhcijeaceaaGreatDoor

/-
  The level as short as told has the value of IMax, and no more nodes: plain law. No statement of the seat.
-/
import Derived.Test.YtljnahbgfmflaaaGreatDoorZRw
import Derived.Test.YtljnahbgfmflaaaGreatDoorZKd
import Derived.Test.YtljnahbgfmflaaaGreatDoorZIn
import Derived.Test.YtljnahbgfmflaaaGreatDoorZIt
import Derived.Test.YtljnahbgfmflaaaGreatDoorZIs
import Derived.Test.YtljnahbgfmflaaaGreatDoorZIr
set_option linter.unusedVariables false
set_option maxHeartbeats 8000000
set_option maxRecDepth 1000000
set_option linter.unusedSimpArgs false
set_option linter.unnecessarySimpa false
namespace Go.Proofs.YtljnahbgfmflaaaGreatDoor
open Go Go.Am Go.Gw
theorem jhO:j0l (.mk 1 0 []) 4=true:=jhc (by omega) (by omega) (by simp [j0o,j0b]) (by simp [allF,j2j,j4O,j7p])
theorem jmL (f:Int→Int):valF (.mk 1 0 []) f=0:=by simp [valF,j2O]
theorem jfp {l m:Lv} (hl:j0l l 4=true) (hm:j0l m 4=true) (hs:j0o l + j0o m ≤ 60):j0l (j2V l m) 4=true:=by
 unfold j2V
 split
 ·exact jhO
 ·split
  ·exact hm
  ·exact jeq (.inr rfl) hl hm hs
theorem j9F {l m:Lv} (hl:j0l l 4=true) (hm:j0l m 4=true) {f:Int→Int} (hf:∀ n:Nat,n < 4→0 ≤ f n):valF (j2V l m) f=valF (j3K l m) f:=by
 have h0:=jpI hm hf
 unfold j3K
 rw [j8C (by omega) (by omega) (by omega)]
 unfold j2V
 split
 ·rename_i hz
  have h1:=jd6 hz hf
  rw [jmL] at h1 ⊢
  rw [if_pos ⟨rfl,by omega⟩]
 ·split
  ·rename_i hz
   have h1:=jd6 hz hf
   split <;> omega
  ·unfold j3K
   rw [j8C (by omega) (by omega) (by omega)]
theorem jmE {l m:Lv} (hl:j0l l 4=true) (hm:j0l m 4=true) (hs:j0o l + j0o m ≤ 60) (vs:List Int):j4S (j2V l m) (j3K l m)=true∧jab (j2V l m) vs=jab (j3K l m) vs∧j2R (j2V l m) ≤ j2R (j3K l m):=by
 have h1:=jfp hl hm hs
 have h2:j0l (j3K l m) 4=true:=jeq (.inr rfl) hl hm hs
 refine ⟨?_,?_,?_⟩
 ·unfold j4S
  rw [Bool.and_eq_true]
  exact ⟨jnX h1 h2 fun f hf=>Int.le_of_eq (j9F hl hm hf),jnX h2 h1 fun f hf=>Int.le_of_eq (j9F hl hm hf).symm⟩
 ·unfold jab
  rw [if_pos h1,if_pos h2]
  exact j9F hl hm fun n _=>(j5q _ _).1
 ·have e:j0o (j3K l m)=j0o l + j0o m + 1:=by
   simp [j3K,j0o,j0b]
  rw [j2H,j2H,e]
  have:=j4H m
  unfold j2V
  split
  ·simp [j0o,j0b]; omega
  ·split
   ·omega
   ·rw [e]
    omega
open Go Go.Am Go.Gw
def ints (l:List Int):List PV:=l.map fun n=>iv n
theorem mxm (a b:Int):(if b > a then b else a)=max a b:=by omega
def jqg (f:Int→Int):SO:=.box 87 [iv (f 0),iv (f 1),iv (f 2),iv (f 3)]
theorem jic (f:Int→Int) (hf:∀ i,0 ≤ i→i < 4→0 ≤ f i∧f i ≤ 1048576) (l:Lv):∀ v,LvP l v→allF l 4=true→j0o l ≤ 100000→Finds C1 52 [v,.bp 0 0] [jqg f] fun r st=>r = .ret [iv (valF l f)]∧st=[jqg f]:=by
 induction l using Lv.ind with
 |_ k nn ls ih =>
 intro v h hall hsz
 obtain ⟨_,_,_,b,zz,xs,⟨rfl,rfl,rfl⟩,rfl,hz,hxs,hlen,hbd⟩:=h.open
 refine j00 Tryz.func52 rfl rfl rfl ?_
 repeat' ((conv=>whnf);first|apply gE<;>intro h|apply gQ|refine j04 rfl rfl ?_)
 all_goals (try (conv=>whnf))
 ·have hk:k=1:=by assumption
  subst hk
  exact ⟨by simp [valF,j2O],rfl⟩
 ·have hk:k=2:=by assumption
  have hp:=jdu hall hk
  subst hk
  rw [ji6]
  have hc:nn=0∨nn=1∨nn=2∨nn=3:=by omega
  rcases hc with rfl|rfl|rfl|rfl
  ·repeat' ((conv=>whnf);first|apply gO|apply gQ|refine j04 rfl rfl ?_)
   all_goals (try (conv=>whnf))
   all_goals exact ⟨rfl,rfl⟩
  ·repeat' ((conv=>whnf);first|apply gO|apply gQ|refine j04 rfl rfl ?_)
   all_goals (try (conv=>whnf))
   all_goals exact ⟨rfl,rfl⟩
  ·repeat' ((conv=>whnf);first|apply gO|apply gQ|refine j04 rfl rfl ?_)
   all_goals (try (conv=>whnf))
   all_goals exact ⟨rfl,rfl⟩
  ·repeat' ((conv=>whnf);first|apply gO|apply gQ|refine j04 rfl rfl ?_)
   all_goals (try (conv=>whnf))
   all_goals exact ⟨rfl,rfl⟩
 ·have hk3:k=3:=h
  obtain ⟨x,rfl⟩:=jgx hall h
  have hax:=j1P hall (i:=0) rfl
  have hsx:=j5F hsz (i:=0) rfl
  obtain ⟨v,hv,hl⟩:=hxs.at (i:=0) rfl
  have hr:=ih x (by simp) v hl hax hsx
  have hbx:=jin x f hax hf
  obtain ⟨k1,n1,l1,b1,z1,x1,rfl,rfl,hz1',hxs1,hlen1,hbd1⟩:=hl.open
  refine VIdx.mk _ hv (VOk.mk (j07 rfl hz) ?_)
  repeat' ((conv=>whnf);first|refine gV ?_|refine j04 rfl rfl ?_|refine j1G hr rfl rfl rfl rfl rfl rfl rfl ?_)
  all_goals (try (conv=>whnf))
  subst hk3
  exact ⟨by rw [jgT],rfl⟩
 ·have hk3:¬ k=3:=h
  have k1:¬ k=1:=by assumption
  have k2:¬ k=2:=by assumption
  obtain ⟨x,y,rfl⟩:=jlA hall k1 k2 hk3
  have hax:=j1P hall (i:=0) rfl
  have hsx:=j5F hsz (i:=0) rfl
  have hay:=j1P hall (i:=1) rfl
  have hsy:=j5F hsz (i:=1) rfl
  obtain ⟨v,hv,hl⟩:=hxs.at (i:=0) rfl
  obtain ⟨w,hw,hm⟩:=hxs.at (i:=1) rfl
  have hrx:=ih x (by simp) v hl hax hsx
  have hry:=ih y (by simp) w hm hay hsy
  obtain ⟨k1',n1,l1,b1,z1,x1,rfl,rfl,hz1',hxs1,hlen1,hbd1⟩:=hl.open
  obtain ⟨k2',n2,l2,b2,z2,x2,rfl,rfl,hz2',hxs2,hlen2,hbd2⟩:=hm.open
  rw [j8C k1 k2 hk3]
  refine VIdx.mk _ hw (VOk.mk (j07 rfl hz) ?_)
  repeat' ((conv=>whnf);first|apply gF|refine gA ?_|refine gB ?_|apply gE<;>intro h|apply gQ|refine j04 rfl rfl ?_|refine VIdx.mk _ hv ?_|refine VOk.mk (j07 rfl hz) ?_|refine j1G hry rfl rfl rfl rfl rfl rfl rfl ?_|refine j1G hrx rfl rfl rfl rfl rfl rfl rfl ?_)
  all_goals (try (conv=>whnf))
  ·exact ⟨by rw [if_pos ⟨by assumption,by assumption⟩],rfl⟩
  ·have hn:¬ (k=5∧valF (.mk k2' n2 l2) f=0):=fun e=>by first|exact h e.1|exact h e.2
   exact ⟨by rw [if_neg hn,← mxm],rfl⟩
  ·have hn:¬ (k=5∧valF (.mk k2' n2 l2) f=0):=fun e=>by first|exact h e.1|exact h e.2
   exact ⟨by rw [if_neg hn,← mxm],rfl⟩
theorem j3S {vs:List Int} {g j:Nat} (h:j < g):j0p vs g j=j1B vs j:=by
 unfold j0p
 rw [if_pos h]
theorem jiY {vs:List Int} {g j:Nat} (h:¬ j < g):j0p vs g j=0:=by
 unfold j0p
 rw [if_neg h]
theorem jfU {vs:List Int} {j:Nat} (h:vs.length ≤ j):j1B vs j=0:=by
 unfold j1B
 rw [Int.toNat_natCast,List.getElem?_eq_none h]
theorem j6P {vs:List Int} {j:Nat} {x:Int} (h:vs[j]? = some x):j1B vs j=min (max x 0) 1048576:=by
 unfold j1B
 rw [Int.toNat_natCast,h]
theorem jeD (l:Lv) (v:PV) (h:LvP l v) (vs:List Int) (b:Bool) (z:Nat) (hz:z=1∨vs=[]) (hbd:vs.length ≤ 20):Pf C1 19 [v,.sl b z (ints vs)] [iv (jab l vs)]:=by
 have hr:=j2d l v h 4
 have h':=h
 obtain ⟨k,nn,ls,b1,z1,xs,-,rfl,-⟩:=h'.open
 unfold jab
 cases hR:j0l l 4 with
 |false =>
  rw [hR] at hr
  refine j00 Tryz.func19 rfl rfl rfl ?_
  repeat' ((conv=>whnf);first|apply gT|refine j03 rfl ?_|refine j01 hr rfl rfl ?_)
  all_goals (try (conv=>whnf))
  all_goals rfl
 |true =>
 rw [hR] at hr
 have hv:=jic (j1B vs) (fun i _ _=>j5q vs i) l _ h (j1z hR) (by have:=j4v hR; omega)
 have hli:(ints vs).length=vs.length:=by simp [ints]
 have hz':z=1∨ints vs=[]:=hz.imp_right fun e=>by rw [e]; rfl
 obtain ⟨m,hm⟩:∃ m,m=min vs.length 4:=⟨_,rfl⟩
 have hif:(if (4:Int) < ((ints vs).length:Int) then (4:Int) else ((ints vs).length:Int))=(m:Int):=by
  rw [hli]
  split <;> omega
 have ho:(m.ble (ints vs).length && Nat.ble 0 m)=true:=by
  rw [hli]
  simp
  omega
 refine j00 Tryz.func19 rfl rfl rfl ?_
 repeat' ((conv=>whnf);first|apply gF|refine j01 hr rfl rfl ?_|refine VOk.mk (j07 rfl hz') ?_|refine VNat.mk _ hif ?_|refine VOk.mk ho ?_)
 all_goals (try (conv=>whnf))
 have hz2:z=1∨(ints vs).take m=[]:=hz'.imp_right fun e=>by rw [e]; simp
 have hlt:((ints vs).take m).length=m:=by
  rw [List.length_take,hli]
  omega
 change FindsL C1 _ _ _ ⟨[_,(16,iv ((ints vs).take m).length),(15,.sl _ z ((ints vs).take m)),_,_,_,_,_,_,_,_,_,_,_,_],_⟩ _
 refine j08 (G:=Nat) (fun i=>[(17,iv i)]) (fun i=>[.box 38 [iv k,iv nn,.sl b1 z1 xs],.box 87 [iv (j0p vs i 0),iv (j0p vs i 1),iv (j0p vs i 2),iv (j0p vs i 3)]]) (fun i=>i ≤ m) (fun i=>m - i) 0 (by omega) rfl rfl ?_
 rintro i hi
 dsimp only at hi ⊢
 repeat' ((conv=>whnf);first|apply gE<;>intro h|apply gQ)
 all_goals (try (conv=>whnf))
 ·have hi':i < m:=by omega
  have hc:i=0∨i=1∨i=2∨i=3:=by omega
  rcases hc with rfl|rfl|rfl|rfl
  ·obtain ⟨x,hx⟩:∃ x,vs[0]? = some x:=⟨_,List.getElem?_eq_getElem (by omega)⟩
   have hv:((ints vs).take m)[0]? = some (iv x):=by
    rw [List.getElem?_take,if_pos (by omega)]
    simp [ints,hx]
   repeat' ((conv=>whnf);first|apply gO|apply gQ|refine gV ?_|refine VIdx.mk _ hv ?_|refine VOk.mk (j07 rfl hz2) ?_)
   all_goals (try (conv=>whnf))
   have e:(((if (1048576:Int) < (if (0:Int) > x then 0 else x) then 1048576 else (if (0:Int) > x then 0 else x)),j0p vs 0 1,j0p vs 0 2,j0p vs 0 3):Int × Int × Int × Int)=(j0p vs 1 0,j0p vs 1 1,j0p vs 1 2,j0p vs 1 3):=by
    have c:=j6P hx
    simp only [Prod.mk.injEq]
    refine ⟨?_,?_,?_,?_⟩ <;> first|rfl|(rw [j3S (by omega),c]; split <;> split <;> omega)|(unfold j0p; rfl)
   exact VAgain.mk _ rfl _ (j0N rfl) ⟨0 + 1,by omega,by omega,congrArg (fun q:Int × Int × Int × Int=>(⟨_,[.box 38 [iv k,iv nn,.sl b1 z1 xs],.box 87 [iv q.1,iv q.2.1,iv q.2.2.1,iv q.2.2.2]]⟩:AS)) e⟩
  ·obtain ⟨x,hx⟩:∃ x,vs[1]? = some x:=⟨_,List.getElem?_eq_getElem (by omega)⟩
   have hv:((ints vs).take m)[1]? = some (iv x):=by
    rw [List.getElem?_take,if_pos (by omega)]
    simp [ints,hx]
   repeat' ((conv=>whnf);first|apply gO|apply gQ|refine gV ?_|refine VIdx.mk _ hv ?_|refine VOk.mk (j07 rfl hz2) ?_)
   all_goals (try (conv=>whnf))
   have e:((j0p vs 1 0,(if (1048576:Int) < (if (0:Int) > x then 0 else x) then 1048576 else (if (0:Int) > x then 0 else x)),j0p vs 1 2,j0p vs 1 3):Int × Int × Int × Int)=(j0p vs 2 0,j0p vs 2 1,j0p vs 2 2,j0p vs 2 3):=by
    have c:=j6P hx
    simp only [Prod.mk.injEq]
    refine ⟨?_,?_,?_,?_⟩ <;> first|rfl|(rw [j3S (by omega),c]; split <;> split <;> omega)|(unfold j0p; rfl)
   exact VAgain.mk _ rfl _ (j0N rfl) ⟨1 + 1,by omega,by omega,congrArg (fun q:Int × Int × Int × Int=>(⟨_,[.box 38 [iv k,iv nn,.sl b1 z1 xs],.box 87 [iv q.1,iv q.2.1,iv q.2.2.1,iv q.2.2.2]]⟩:AS)) e⟩
  ·obtain ⟨x,hx⟩:∃ x,vs[2]? = some x:=⟨_,List.getElem?_eq_getElem (by omega)⟩
   have hv:((ints vs).take m)[2]? = some (iv x):=by
    rw [List.getElem?_take,if_pos (by omega)]
    simp [ints,hx]
   repeat' ((conv=>whnf);first|apply gO|apply gQ|refine gV ?_|refine VIdx.mk _ hv ?_|refine VOk.mk (j07 rfl hz2) ?_)
   all_goals (try (conv=>whnf))
   have e:((j0p vs 2 0,j0p vs 2 1,(if (1048576:Int) < (if (0:Int) > x then 0 else x) then 1048576 else (if (0:Int) > x then 0 else x)),j0p vs 2 3):Int × Int × Int × Int)=(j0p vs 3 0,j0p vs 3 1,j0p vs 3 2,j0p vs 3 3):=by
    have c:=j6P hx
    simp only [Prod.mk.injEq]
    refine ⟨?_,?_,?_,?_⟩ <;> first|rfl|(rw [j3S (by omega),c]; split <;> split <;> omega)|(unfold j0p; rfl)
   exact VAgain.mk _ rfl _ (j0N rfl) ⟨2 + 1,by omega,by omega,congrArg (fun q:Int × Int × Int × Int=>(⟨_,[.box 38 [iv k,iv nn,.sl b1 z1 xs],.box 87 [iv q.1,iv q.2.1,iv q.2.2.1,iv q.2.2.2]]⟩:AS)) e⟩
  ·obtain ⟨x,hx⟩:∃ x,vs[3]? = some x:=⟨_,List.getElem?_eq_getElem (by omega)⟩
   have hv:((ints vs).take m)[3]? = some (iv x):=by
    rw [List.getElem?_take,if_pos (by omega)]
    simp [ints,hx]
   repeat' ((conv=>whnf);first|apply gO|apply gQ|refine gV ?_|refine VIdx.mk _ hv ?_|refine VOk.mk (j07 rfl hz2) ?_)
   all_goals (try (conv=>whnf))
   have e:((j0p vs 3 0,j0p vs 3 1,j0p vs 3 2,(if (1048576:Int) < (if (0:Int) > x then 0 else x) then 1048576 else (if (0:Int) > x then 0 else x))):Int × Int × Int × Int)=(j0p vs 4 0,j0p vs 4 1,j0p vs 4 2,j0p vs 4 3):=by
    have c:=j6P hx
    simp only [Prod.mk.injEq]
    refine ⟨?_,?_,?_,?_⟩ <;> first|rfl|(rw [j3S (by omega),c]; split <;> split <;> omega)|(unfold j0p; rfl)
   exact VAgain.mk _ rfl _ (j0N rfl) ⟨3 + 1,by omega,by omega,congrArg (fun q:Int × Int × Int × Int=>(⟨_,[.box 38 [iv k,iv nn,.sl b1 z1 xs],.box 87 [iv q.1,iv q.2.1,iv q.2.2.1,iv q.2.2.2]]⟩:AS)) e⟩
 ·have hl:i=m:=by omega
  subst hl
  have hq:∀ j:Nat,j < 4→j0p vs i j=j1B vs j:=fun j hj=>by
   by_cases hji:j < i
   ·exact j3S hji
   ·rw [jiY hji,jfU (by omega)]
  rw [hq 0 (by omega),hq 1 (by omega),hq 2 (by omega),hq 3 (by omega)]
  repeat' ((conv=>whnf);first|refine j03 rfl ?_|refine j1G hv rfl rfl rfl rfl rfl rfl rfl ?_)
  all_goals (try (conv=>whnf))
  all_goals rfl
open Go Go.Am Go.Gw
theorem jm3 {f:FuncId} {rs:List PV} {st st1:Sto} {K:AEnd→Sto→Prop} (h:Finds C1 f [] [] fun r s=>r = .ret rs∧s=st1) (hp:rs.all (pur 8)=false) (hb:VBack [] st (.ret rs) st1 K):VCall C1 f [] st K:=j1n rfl (Finds.mono h (by rintro _ _ ⟨rfl,rfl⟩; exact ⟨hp,hb⟩))
def axE (s:List UInt8) (t:Tm):En:=⟨1,0,s,t,tz,0,[],0,0,0,[]⟩
def twoT:Tm:=pi_ tNat (pi_ tNat tNat)
def jcV:List En:=[⟨5,0,nNat,so_ l1,tz,0,[],0,0,0,[j4J,j6v]⟩,⟨6,0,j4J,tNat,jon,0,nNat,0,0,0,[]⟩,⟨6,0,j6v,pi_ tNat tNat,joe,0,nNat,0,1,1,[]⟩,⟨7,1,nRec,recT,tz,0,nNat,0,0,0,[j4J,j6v]⟩,⟨2,0,nAdd,twoT,jqu,1,[],0,0,0,[]⟩,⟨2,0,nMul,twoT,jqA,2,[],0,0,0,[]⟩,axE [107] tNat,axE [112] (so_ l0),axE [104] (cq [112]),axE [105] (cq [112]),axE [113] (pi_ tNat (so_ l0)),axE [102] twoT]
theorem jkr:∃ xs,EnsP jcV xs∧Pf C1 42 [] [.sl false 19 xs]:=by
 refine Finds.out (P:=EnsP jcV) (R:=fun xs=>.ret [.sl false 19 xs]) ?_
 obtain ⟨xs,hx,hl⟩:=jlV
 obtain ⟨v0,_,rfl,p0,v1,_,rfl,p1,v2,_,rfl,p2,v3,_,rfl,p3,v4,_,rfl,p4,v5,_,rfl,p5,v6,_,rfl,p6,rfl⟩:=hx
 obtain ⟨rr,hrr,cr⟩:=j2h jiR
 obtain ⟨rt,hrt,ct⟩:=j2h jiS
 obtain ⟨rs,hrs,cs⟩:=j2h jjW
 obtain ⟨rp,hrp,cp⟩:=j2h jmu
 obtain ⟨rq,hrq,cq'⟩:=j2h jne
 have hrr':=hrr
 obtain ⟨rr1,rr2,rr3,rr4,rr5,rr6,rr7,rr8,rr9,rra,rrb,-,rfl,-⟩:=hrr'.open
 have hrt':=hrt
 obtain ⟨rt1,rt2,rt3,rt4,rt5,rt6,rt7,rt8,rt9,rta,rtb,-,rfl,-⟩:=hrt'.open
 have hrs':=hrs
 obtain ⟨rs1,rs2,rs3,rs4,rs5,rs6,rs7,rs8,rs9,rsa,rsb,-,rfl,-⟩:=hrs'.open
 have hrp':=hrp
 obtain ⟨rp1,rp2,rp3,rp4,rp5,rp6,rp7,rp8,rp9,rpa,rpb,-,rfl,-⟩:=hrp'.open
 have hrq':=hrq
 obtain ⟨rq1,rq2,rq3,rq4,rq5,rq6,rq7,rq8,rq9,rqa,rqb,-,rfl,-⟩:=hrq'.open
 have p0':=p0
 have p1':=p1
 have p2':=p2
 have p3':=p3
 have p4':=p4
 have p5':=p5
 have p6':=p6
 obtain ⟨e0_0,e0_1,e0_2,e0_3,e0_4,e0_5,e0_6,e0_7,e0_8,e0_9,e0_10,e0_11,e0_12,e0_13,e0_14,e0_15,e0_16,e0_17,e0_18,e0_19,rfl,e0h⟩:=p0
 obtain ⟨e1_0,e1_1,e1_2,e1_3,e1_4,e1_5,e1_6,e1_7,e1_8,e1_9,e1_10,e1_11,e1_12,e1_13,e1_14,e1_15,e1_16,e1_17,e1_18,e1_19,rfl,e1h⟩:=p1
 obtain ⟨e2_0,e2_1,e2_2,e2_3,e2_4,e2_5,e2_6,e2_7,e2_8,e2_9,e2_10,e2_11,e2_12,e2_13,e2_14,e2_15,e2_16,e2_17,e2_18,e2_19,rfl,e2h⟩:=p2
 obtain ⟨e3_0,e3_1,e3_2,e3_3,e3_4,e3_5,e3_6,e3_7,e3_8,e3_9,e3_10,e3_11,e3_12,e3_13,e3_14,e3_15,e3_16,e3_17,e3_18,e3_19,rfl,e3h⟩:=p3
 obtain ⟨e4_0,e4_1,e4_2,e4_3,e4_4,e4_5,e4_6,e4_7,e4_8,e4_9,e4_10,e4_11,e4_12,e4_13,e4_14,e4_15,e4_16,e4_17,e4_18,e4_19,rfl,e4h⟩:=p4
 obtain ⟨e5_0,e5_1,e5_2,e5_3,e5_4,e5_5,e5_6,e5_7,e5_8,e5_9,e5_10,e5_11,e5_12,e5_13,e5_14,e5_15,e5_16,e5_17,e5_18,e5_19,rfl,e5h⟩:=p5
 obtain ⟨e6_0,e6_1,e6_2,e6_3,e6_4,e6_5,e6_6,e6_7,e6_8,e6_9,e6_10,e6_11,e6_12,e6_13,e6_14,e6_15,e6_16,e6_17,e6_18,e6_19,rfl,e6h⟩:=p6
 have hE:EnsP jcV [.ag [iv 5,iv 0,sv nNat,iv e0_0,iv e0_1,sv e0_2,.sl e0_3 e0_4 e0_5,.sl e0_6 e0_7 e0_8,iv e0_9,iv e0_10,sv e0_11,.sl e0_12 e0_13 e0_14,.sl e0_15 e0_16 e0_17,iv 0,sv [],iv 0,iv 0,iv 0,.sl e0_18 e0_19 (svs [j4J,j6v])],.ag [iv 6,iv 0,sv j4J,iv e1_0,iv e1_1,sv e1_2,.sl e1_3 e1_4 e1_5,.sl e1_6 e1_7 e1_8,iv e1_9,iv e1_10,sv e1_11,.sl e1_12 e1_13 e1_14,.sl e1_15 e1_16 e1_17,iv 0,sv nNat,iv 0,iv 0,iv 0,.sl e1_18 e1_19 (svs [])],.ag [iv 6,iv 0,sv j6v,iv e2_0,iv e2_1,sv e2_2,.sl e2_3 e2_4 e2_5,.sl e2_6 e2_7 e2_8,iv e2_9,iv e2_10,sv e2_11,.sl e2_12 e2_13 e2_14,.sl e2_15 e2_16 e2_17,iv 0,sv nNat,iv 0,iv 1,iv 1,.sl e2_18 e2_19 (svs [])],.ag [iv 7,iv 1,sv nRec,iv rr1,iv rr2,sv rr3,.sl rr6 rr7 rr8,.sl rr9 rra rrb,iv e3_9,iv e3_10,sv e3_11,.sl e3_12 e3_13 e3_14,.sl e3_15 e3_16 e3_17,iv 0,sv nNat,iv 0,iv 0,iv 0,.sl e3_18 e3_19 (svs [j4J,j6v])],.ag [iv 2,iv 0,sv nAdd,iv rt1,iv rt2,sv rt3,.sl rt6 rt7 rt8,.sl rt9 rta rtb,iv e4_9,iv e4_10,sv e4_11,.sl e4_12 e4_13 e4_14,.sl e4_15 e4_16 e4_17,iv 1,sv [],iv 0,iv 0,iv 0,.sl e4_18 e4_19 (svs [])],.ag [iv 2,iv 0,sv nMul,iv rt1,iv rt2,sv rt3,.sl rt6 rt7 rt8,.sl rt9 rta rtb,iv e5_9,iv e5_10,sv e5_11,.sl e5_12 e5_13 e5_14,.sl e5_15 e5_16 e5_17,iv 2,sv [],iv 0,iv 0,iv 0,.sl e5_18 e5_19 (svs [])],.ag [iv 1,iv 0,sv [107],iv e6_0,iv e6_1,sv e6_2,.sl e6_3 e6_4 e6_5,.sl e6_6 e6_7 e6_8,iv e6_9,iv e6_10,sv e6_11,.sl e6_12 e6_13 e6_14,.sl e6_15 e6_16 e6_17,iv 0,sv [],iv 0,iv 0,iv 0,.sl e6_18 e6_19 (svs [])],.ag [iv 1,iv 0,sv [112],iv rs1,iv rs2,sv rs3,.sl rs6 rs7 rs8,.sl rs9 rsa rsb,iv 0,iv 0,sv [],.sl true 0 [],.sl true 0 [],iv 0,sv [],iv 0,iv 0,iv 0,.sl true 0 []],.ag [iv 1,iv 0,sv [104],iv rp1,iv rp2,sv rp3,.sl rp6 rp7 rp8,.sl rp9 rpa rpb,iv 0,iv 0,sv [],.sl true 0 [],.sl true 0 [],iv 0,sv [],iv 0,iv 0,iv 0,.sl true 0 []],.ag [iv 1,iv 0,sv [105],iv rp1,iv rp2,sv rp3,.sl rp6 rp7 rp8,.sl rp9 rpa rpb,iv 0,iv 0,sv [],.sl true 0 [],.sl true 0 [],iv 0,sv [],iv 0,iv 0,iv 0,.sl true 0 []],.ag [iv 1,iv 0,sv [113],iv rq1,iv rq2,sv rq3,.sl rq6 rq7 rq8,.sl rq9 rqa rqb,iv 0,iv 0,sv [],.sl true 0 [],.sl true 0 [],iv 0,sv [],iv 0,iv 0,iv 0,.sl true 0 []],.ag [iv 1,iv 0,sv [102],iv rt1,iv rt2,sv rt3,.sl rt6 rt7 rt8,.sl rt9 rta rtb,iv 0,iv 0,sv [],.sl true 0 [],.sl true 0 [],iv 0,sv [],iv 0,iv 0,iv 0,.sl true 0 []]]:=⟨_,_,rfl,p0',_,_,rfl,p1',_,_,rfl,p2',_,_,rfl,⟨rr1,rr2,rr3,rr6,rr7,rr8,rr9,rra,rrb,e3_9,e3_10,e3_11,e3_12,e3_13,e3_14,e3_15,e3_16,e3_17,e3_18,e3_19,rfl,hrr,e3h.2⟩,_,_,rfl,⟨rt1,rt2,rt3,rt6,rt7,rt8,rt9,rta,rtb,e4_9,e4_10,e4_11,e4_12,e4_13,e4_14,e4_15,e4_16,e4_17,e4_18,e4_19,rfl,hrt,e4h.2⟩,_,_,rfl,⟨rt1,rt2,rt3,rt6,rt7,rt8,rt9,rta,rtb,e5_9,e5_10,e5_11,e5_12,e5_13,e5_14,e5_15,e5_16,e5_17,e5_18,e5_19,rfl,hrt,e5h.2⟩,_,_,rfl,p6',_,_,rfl,⟨rs1,rs2,rs3,rs6,rs7,rs8,rs9,rsa,rsb,0,0,[],true,0,[],true,0,[],true,0,rfl,hrs,j6c,.inr ⟨rfl,rfl,rfl⟩,by simp [axE],by simp [axE],by simp [axE],by simp [axE]⟩,_,_,rfl,⟨rp1,rp2,rp3,rp6,rp7,rp8,rp9,rpa,rpb,0,0,[],true,0,[],true,0,[],true,0,rfl,hrp,j6c,.inr ⟨rfl,rfl,rfl⟩,by simp [axE],by simp [axE],by simp [axE],by simp [axE]⟩,_,_,rfl,⟨rp1,rp2,rp3,rp6,rp7,rp8,rp9,rpa,rpb,0,0,[],true,0,[],true,0,[],true,0,rfl,hrp,j6c,.inr ⟨rfl,rfl,rfl⟩,by simp [axE],by simp [axE],by simp [axE],by simp [axE]⟩,_,_,rfl,⟨rq1,rq2,rq3,rq6,rq7,rq8,rq9,rqa,rqb,0,0,[],true,0,[],true,0,[],true,0,rfl,hrq,j6c,.inr ⟨rfl,rfl,rfl⟩,by simp [axE],by simp [axE],by simp [axE],by simp [axE]⟩,_,_,rfl,⟨rt1,rt2,rt3,rt6,rt7,rt8,rt9,rta,rtb,0,0,[],true,0,[],true,0,[],true,0,rfl,hrt,j6c,.inr ⟨rfl,rfl,rfl⟩,by simp [axE],by simp [axE],by simp [axE],by simp [axE]⟩,rfl⟩
 dsimp only at hl
 refine j00 Tryz.func42 rfl rfl rfl ?_
 repeat' ((conv=>whnf);first|apply gO|apply gQ|refine jm3 hl rfl (j1X rfl ?_)|refine VIdx.mk _ rfl ?_|refine j01 cr rfl rfl ?_|refine j01 ct rfl rfl ?_|refine j01 cs rfl rfl ?_|refine j01 cp rfl rfl ?_|refine j01 cq' rfl rfl ?_)
 all_goals (try (conv=>whnf))
 exact jnI (xs:=[.ag [iv 5,iv 0,sv nNat,iv e0_0,iv e0_1,sv e0_2,.sl e0_3 e0_4 e0_5,.sl e0_6 e0_7 e0_8,iv e0_9,iv e0_10,sv e0_11,.sl e0_12 e0_13 e0_14,.sl e0_15 e0_16 e0_17,iv 0,sv [],iv 0,iv 0,iv 0,.sl e0_18 e0_19 (svs [j4J,j6v])],.ag [iv 6,iv 0,sv j4J,iv e1_0,iv e1_1,sv e1_2,.sl e1_3 e1_4 e1_5,.sl e1_6 e1_7 e1_8,iv e1_9,iv e1_10,sv e1_11,.sl e1_12 e1_13 e1_14,.sl e1_15 e1_16 e1_17,iv 0,sv nNat,iv 0,iv 0,iv 0,.sl e1_18 e1_19 (svs [])],.ag [iv 6,iv 0,sv j6v,iv e2_0,iv e2_1,sv e2_2,.sl e2_3 e2_4 e2_5,.sl e2_6 e2_7 e2_8,iv e2_9,iv e2_10,sv e2_11,.sl e2_12 e2_13 e2_14,.sl e2_15 e2_16 e2_17,iv 0,sv nNat,iv 0,iv 1,iv 1,.sl e2_18 e2_19 (svs [])],.ag [iv 7,iv 1,sv nRec,iv rr1,iv rr2,sv rr3,.sl rr6 rr7 rr8,.sl rr9 rra rrb,iv e3_9,iv e3_10,sv e3_11,.sl e3_12 e3_13 e3_14,.sl e3_15 e3_16 e3_17,iv 0,sv nNat,iv 0,iv 0,iv 0,.sl e3_18 e3_19 (svs [j4J,j6v])],.ag [iv 2,iv 0,sv nAdd,iv rt1,iv rt2,sv rt3,.sl rt6 rt7 rt8,.sl rt9 rta rtb,iv e4_9,iv e4_10,sv e4_11,.sl e4_12 e4_13 e4_14,.sl e4_15 e4_16 e4_17,iv 1,sv [],iv 0,iv 0,iv 0,.sl e4_18 e4_19 (svs [])],.ag [iv 2,iv 0,sv nMul,iv rt1,iv rt2,sv rt3,.sl rt6 rt7 rt8,.sl rt9 rta rtb,iv e5_9,iv e5_10,sv e5_11,.sl e5_12 e5_13 e5_14,.sl e5_15 e5_16 e5_17,iv 2,sv [],iv 0,iv 0,iv 0,.sl e5_18 e5_19 (svs [])],.ag [iv 1,iv 0,sv [107],iv e6_0,iv e6_1,sv e6_2,.sl e6_3 e6_4 e6_5,.sl e6_6 e6_7 e6_8,iv e6_9,iv e6_10,sv e6_11,.sl e6_12 e6_13 e6_14,.sl e6_15 e6_16 e6_17,iv 0,sv [],iv 0,iv 0,iv 0,.sl e6_18 e6_19 (svs [])],.ag [iv 1,iv 0,sv [112],iv rs1,iv rs2,sv rs3,.sl rs6 rs7 rs8,.sl rs9 rsa rsb,iv 0,iv 0,sv [],.sl true 0 [],.sl true 0 [],iv 0,sv [],iv 0,iv 0,iv 0,.sl true 0 []],.ag [iv 1,iv 0,sv [104],iv rp1,iv rp2,sv rp3,.sl rp6 rp7 rp8,.sl rp9 rpa rpb,iv 0,iv 0,sv [],.sl true 0 [],.sl true 0 [],iv 0,sv [],iv 0,iv 0,iv 0,.sl true 0 []],.ag [iv 1,iv 0,sv [105],iv rp1,iv rp2,sv rp3,.sl rp6 rp7 rp8,.sl rp9 rpa rpb,iv 0,iv 0,sv [],.sl true 0 [],.sl true 0 [],iv 0,sv [],iv 0,iv 0,iv 0,.sl true 0 []],.ag [iv 1,iv 0,sv [113],iv rq1,iv rq2,sv rq3,.sl rq6 rq7 rq8,.sl rq9 rqa rqb,iv 0,iv 0,sv [],.sl true 0 [],.sl true 0 [],iv 0,sv [],iv 0,iv 0,iv 0,.sl true 0 []],.ag [iv 1,iv 0,sv [102],iv rt1,iv rt2,sv rt3,.sl rt6 rt7 rt8,.sl rt9 rta rtb,iv 0,iv 0,sv [],.sl true 0 [],.sl true 0 [],iv 0,sv [],iv 0,iv 0,iv 0,.sl true 0 []]]) rfl rfl rfl rfl ⟨_,hE,rfl⟩
open Go Go.Am Go.Gw
def Tr.okB:Tr→Nat→Bool
 | .nil,_=>true
 | .nd _ _ l r d q,m=>(l.okB m && r.okB m) && decide (0 ≤ d∧d ≤ m∧0 ≤ q∧q ≤ m)
theorem Tr.okB_ok:∀ {t:Tr} {m:Nat},t.okB m=true→t.ok m
 | .nil,_,_=>trivial
 | .nd _ _ l r d q,m,h=>by
  simp only [Tr.okB,Bool.and_eq_true,decide_eq_true_eq] at h
  exact ⟨Tr.okB_ok h.1.1,Tr.okB_ok h.1.2,h.2⟩
def jdM (s:List UInt8) (n:Int):Tr→Bool
 | .nil=>true
 | .nd _ _ l r _ _=>(l.okB 4000 && (r.okB 4000 && ((putR s n l).okB 4000 && (putR s n r).okB 4000))) && (jdM s n l && jdM s n r)
theorem j8O {s:List UInt8} {n:Int}:∀ {t:Tr},jdM s n t=true→jfg s n t
 | .nil,_=>trivial
 | .nd _ _ l r _ _,h=>by
  simp only [jdM,Bool.and_eq_true] at h
  obtain ⟨⟨h1,h2,h3,h4⟩,h5,h6⟩:=h
  exact ⟨Tr.okB_ok h1,Tr.okB_ok h2,Tr.okB_ok h3,Tr.okB_ok h4,j8O h5,j8O h6⟩
def Tr.allB (n:Nat):Tr→Bool
 | .nil=>true
 | .nd _ i l r _ _=>decide (0 ≤ i∧i < n) && (l.allB n && r.allB n)
theorem Tr.allB_find {n:Nat} {s:List UInt8}:∀ {t:Tr},t.allB n=true→(j9T s t).allB n=true
 | .nil,_=>rfl
 | .nd s1 j l r d q,h=>by
  have h':=h
  simp only [Tr.allB,Bool.and_eq_true] at h'
  unfold j9T
  split
  ·exact h
  ·split
   ·exact Tr.allB_find h'.2.1
   ·exact Tr.allB_find h'.2.2
theorem Tr.allB_ok {n:Nat} {s:List UInt8} {t:Tr} (h:t.allB n=true) (i:Int) (hg:getR s t=some i):0 ≤ i∧i < n:=by
 have hf:=Tr.allB_find (s:=s) h
 unfold getR at hg
 cases hF:j9T s t with
 |nil =>
  rw [hF] at hg
  cases hg
 |nd s1 j l r d q =>
  rw [hF] at hg hf
  cases hg
  simp only [Tr.allB,Bool.and_eq_true,decide_eq_true_eq] at hf
  exact hf.1
def nvB (E:Nv):Bool:=E.tr.allB E.es.length && (E.es.all j2a && Nat.ble E.es.length 100000)
theorem jqa {E:Nv} (h:nvB E=true):NvOk E:=by
 simp only [nvB,Bool.and_eq_true] at h
 exact ⟨fun s i hg=>Tr.allB_ok h.1 i hg,fun e he=>List.all_eq_true.1 h.2.1 e he,Nat.le_of_ble_eq_true h.2.2⟩
def jn6:Nv→List En→Bool
 |_,[]=>true
 |E,e :: r=>(j2a e && ((getR e.nm E.tr).isNone && (jdM e.nm E.es.length E.tr && (Nat.blt E.es.length 100000 && nvB (E.push e))))) && jn6 (E.push e) r
theorem jgf:∀ {es:List En} {E:Nv},jn6 E es=true→jhs E es
 |[],_,_=>trivial
 |e :: r,E,h=>by
  simp only [jn6,Bool.and_eq_true] at h
  obtain ⟨⟨h1,h2,h3,h4,h5⟩,h6⟩:=h
  exact ⟨⟨h1,by simpa using h2,j8O h3,by simpa using h4,jqa h5⟩,jgf h6⟩
theorem jqo:jn6 nv0 jcV=true:=by kernel_rfl
def nv14:Nv:=jcj nv0 jcV
theorem jgz {f:FuncId} {args rs:List PV} {st st1:Sto} {K:AEnd→Sto→Prop} (h:Finds C1 f args [] fun r s=>r = .ret rs∧s=st1) (ha:args.all (pur 8)=true) (hp:rs.all (pur 8)=false) (hb:VBack [] st (.ret rs) st1 K):VCall C1 f args st K:=j1n ha (Finds.mono h (by rintro _ _ ⟨rfl,rfl⟩; exact ⟨hp,hb⟩))
theorem jfv:∃ cs,NvP nv14 (.cp cs)∧∀ n:Int,0 ≤ n→n ≤ 1048576→Finds C1 9 [iv n] [] fun r st=>r = .ret [.ci [.bp 0 0]]∧st=[runB cs n n]:=by
 obtain ⟨ws,hws,hl⟩:=jkr
 obtain ⟨v,hv,ha⟩:=joo nv0 _ jr1 jcV false ws hws (jgf jqo) (by decide)
 have hv':=hv
 obtain ⟨b,z,xs,rfl,-⟩:=hv'
 refine ⟨_,hv,fun n h0 h1=>?_⟩
 have he:=ji2
 have hw:=jfL [j6t (jcj nv0 jcV).tr,.sl b z xs] n h0 h1
 have hc:=jfk [j6t (jcj nv0 jcV).tr,.sl b z xs] n n
 generalize j6t (jcj nv0 jcV).tr=tp at *
 refine j00 Tryz.func9 rfl rfl rfl ?_
 repeat' ((conv=>whnf);first|apply gF|refine j01 he rfl rfl ?_|refine j01 hl rfl rfl ?_|refine j01 ha rfl rfl ?_|refine jgz hw rfl rfl (j1X rfl ?_)|refine j02 hc rfl rfl rfl rfl rfl rfl rfl ?_)
 all_goals (try (conv=>whnf))
 show VRet C1 _ 0 [.ci [.bp 0 0]] [runB [tp,.sl b z xs] n n] _
 exact j1Q (.inr ⟨rfl,rfl⟩) rfl rfl rfl ⟨rfl,rfl⟩
open Go Go.Am Go.Gw
theorem jjx:isTm (la_ tNat (ap (ap (cq [102]) (vr 0)) (vr 0))) ((ev C1 60).call 31 [sv [40,92,32,110,97,116,32,40,102,32,35,48,32,35,48,41,41]] [])=true:=by kernel_rfl
theorem jjH:isTm (cq [102]) ((ev C1 60).call 31 [sv [102]] [])=true:=by kernel_rfl
theorem jkJ:isTm (la_ tNat (ap (ap (cq [102]) (cq j4J)) (vr 0))) ((ev C1 60).call 31 [sv [40,92,32,110,97,116,32,40,102,32,110,97,116,46,122,101,114,111,32,35,48,41,41]] [])=true:=by kernel_rfl
theorem jlf:isTm (ap (cq [102]) (cq j4J)) ((ev C1 60).call 31 [sv [40,102,32,110,97,116,46,122,101,114,111,41]] [])=true:=by kernel_rfl
theorem jnO:isTm (cq [104]) ((ev C1 60).call 31 [sv [104]] [])=true:=by kernel_rfl
theorem jmA:isTm (cq [105]) ((ev C1 60).call 31 [sv [105]] [])=true:=by kernel_rfl
theorem jnm:isTm (ap (cq nAdd) (cq [107])) ((ev C1 60).call 31 [sv [40,97,100,100,32,107,41]] [])=true:=by kernel_rfl
theorem jmS:isTm (pi_ tNat (ap (cq [113]) (vr 0))) ((ev C1 60).call 31 [sv [40,62,32,110,97,116,32,40,113,32,35,48,41,41]] [])=true:=by kernel_rfl
open Go Go.Am Go.Gw
def j7I:Nat→Tm
 |0=>cq j4J
 |n + 1=>ap (cq j6v) (j7I n)
def tA1:Tm:=la_ tNat (ap (ap (cq [102]) (vr 0)) (vr 0))
def tB1:Tm:=la_ tNat (ap (ap (cq [102]) (cq j4J)) (vr 0))
def tB2:Tm:=ap (cq [102]) (cq j4J)
def tK:Tm:=ap (cq nAdd) (cq [107])
def tS:Tm:=ap (ap (cq nAdd) (j7I 2)) (j7I 1)
def tL:Tm:=pi_ tNat (ap (cq [113]) (vr 0))
theorem jpV:jbs nv14 60 [] tA1 (cq [102]) 5000=some (.ok false,4981):=by kernel_rfl
theorem jpM:jbs nv14 60 [] tB1 tB2 4981=some (.ok true,4979):=by kernel_rfl
theorem jq3:jbs nv14 60 [] (cq [104]) (cq [105]) 4979=some (.ok true,4969):=by kernel_rfl
theorem jpF:jld nv14 60 [] tK 4969=some (.ok (pi_ tNat tNat),4967):=by kernel_rfl
theorem jqG:jbs nv14 60 [] tS (j7I 3) 4967=some (.ok true,4950):=by kernel_rfl
theorem jqz:jfB nv14 60 [] (cq [104]) 4950=some (.ok true,4946):=by kernel_rfl
theorem jpQ:jky nv14 60 [] tL 4946=some (.ok (.mk 1 0 []),4939):=by kernel_rfl
theorem jq6:isTx [40,62,32,110,97,116,32,110,97,116,41] ((ev C1 60).call 35 [encT (pi_ tNat tNat)] [])=true:=by kernel_rfl
def out1 (r:Option (AEnd × Sto)):PV:=match r with
 |some (.ret [v],_)=>v
 |_=>.un
def is1 (r:Option (AEnd × Sto)):Bool:=match r with
 |some (.ret [_],_)=>true
 |_=>false
theorem jaY {f:FuncId} {args:List PV} {n:Nat} (h:is1 ((ev C1 n).call f args [])=true):Pf C1 f args [out1 ((ev C1 n).call f args [])]:=by
 unfold is1 at h
 split at h
 ·rename_i v st hc
  rw [show out1 ((ev C1 n).call f args [])=v by rw [hc]; rfl]
  exact jdK n hc
 ·cases h
noncomputable def j3y (n:Int):PV:=out1 ((ev C1 60).call 24 [iv n] [])
theorem joX:(is1 ((ev C1 60).call 24 [iv 1] []) && (okTm (j7I 1) (j3y 1) && smTm (j7I 1)))=true:=by kernel_rfl
theorem jmp:TmP (j7I 1) (j3y 1)∧Pf C1 24 [iv 1] [j3y 1]:=by
 have h:=joX
 rw [Bool.and_eq_true,Bool.and_eq_true] at h
 exact ⟨j6r h.2.1 h.2.2,jaY h.1⟩
theorem jp5:(is1 ((ev C1 60).call 24 [iv 2] []) && (okTm (j7I 2) (j3y 2) && smTm (j7I 2)))=true:=by kernel_rfl
theorem jmJ:TmP (j7I 2) (j3y 2)∧Pf C1 24 [iv 2] [j3y 2]:=by
 have h:=jp5
 rw [Bool.and_eq_true,Bool.and_eq_true] at h
 exact ⟨j6r h.2.1 h.2.2,jaY h.1⟩
theorem joE:(is1 ((ev C1 60).call 24 [iv 3] []) && (okTm (j7I 3) (j3y 3) && smTm (j7I 3)))=true:=by kernel_rfl
theorem jnJ:TmP (j7I 3) (j3y 3)∧Pf C1 24 [iv 3] [j3y 3]:=by
 have h:=joE
 rw [Bool.and_eq_true,Bool.and_eq_true] at h
 exact ⟨j6r h.2.1 h.2.2,jaY h.1⟩
theorem of13:isTm tS ((ev C1 60).call 23 [sv nAdd,j3y 2,j3y 1] [])=true:=by kernel_rfl
noncomputable def lpV:PV:=out1 ((ev C1 60).call 37 [iv 0] [])
noncomputable def lnV:PV:=out1 ((ev C1 60).call 38 [iv 0] [])
noncomputable def liV:PV:=out1 ((ev C1 60).call 16 [lpV,lnV] [])
def jkO (v:PV):Bool:=match v with
 | .ag [.sc (.int .i64 _),.sc (.int .i64 _),.sl _ _ _]=>true
 |_=>false
theorem jcr {v:PV} (h:jkO v=true):∃ a c b z xs,v = .ag [iv a,iv c,.sl b z xs]:=by
 unfold jkO at h
 split at h
 ·exact ⟨_,_,_,_,_,rfl⟩
 ·cases h
def isB (q:Bool) (r:Option (AEnd × Sto)):Bool:=match r with
 |some (.ret [.sc (.bool p)],_)=>p == q
 |_=>false
theorem jo6 {q:Bool} {f:FuncId} {args:List PV} {n:Nat} (h:isB q ((ev C1 n).call f args [])=true):Pf C1 f args [bv q]:=by
 unfold isB at h
 split at h
 ·rename_i v st hc
  have e:=eq_of_beq h
  subst e
  exact jdK n hc
 ·cases h
theorem jqV:(is1 ((ev C1 60).call 37 [iv 0] []) && (is1 ((ev C1 60).call 38 [iv 0] []) && (is1 ((ev C1 60).call 16 [lpV,lnV] []) && (isB true ((ev C1 60).call 36 [liV] []) && (jkO lpV && (jkO lnV && jkO liV))))))=true:=by kernel_rfl
theorem jpT:isB true ((ev C1 60).call 36 [encL (.mk 1 0 [])] [])=true:=by kernel_rfl
open Go Go.Am Go.Gw
theorem ciEq {x y:Operand} {cs:List PV}:j0m C1.P .eql 28 x y (.ci cs) nilP=some (bv false):=by kernel_rfl
theorem ciNe {x y:Operand} {cs:List PV}:j0m C1.P .neq 28 x y (.ci cs) nilP=some (bv true):=by kernel_rfl
theorem jot {op:BinOp} {x y:Operand} {cs:List PV} {K:PV→Prop} (h:jpc op false K):VRes (j0m C1.P op 28 x y (.ci cs) nilP) K:=by
 cases op with
 |eql=>exact ⟨_,ciEq,h⟩
 |neq=>exact ⟨_,ciNe,h⟩
 |_=>exact h.elim
theorem jg0:Pf C1 7 [] [bv true]:=by
 obtain ⟨cs,hE,hB⟩:=jfv
 have hB:=hB 5000 (by omega) (by omega)
 have ht:(5000:Int) ≤ 1048576:=by omega
 obtain ⟨la,hla,cla⟩:=j2h jjx
 obtain ⟨lb,hlb,clb⟩:=j2h jjH
 obtain ⟨lc,hlc,clc⟩:=j2h jkJ
 obtain ⟨ld,hld,cld⟩:=j2h jlf
 obtain ⟨lh,hlh,clh⟩:=j2h jnO
 obtain ⟨li,hli,cli⟩:=j2h jmA
 obtain ⟨lk,hlk,clk⟩:=j2h jnm
 obtain ⟨ll,hll,cll⟩:=j2h jmS
 obtain ⟨h2,c2⟩:=jmJ
 obtain ⟨h1,c1⟩:=jmp
 obtain ⟨h3,c3⟩:=jnJ
 obtain ⟨vo,ho,co⟩:=j2h of13
 have sa:=j7j nv14 cs hE 5000 ht 60 [] true 0 [] (.inr ⟨rfl,rfl,rfl⟩) rfl (by simp) _ _ hla _ _ hlb 5000 _ _ (by omega) (by omega) jpV
 have sb:=j7j nv14 cs hE 5000 ht 60 [] true 0 [] (.inr ⟨rfl,rfl,rfl⟩) rfl (by simp) _ _ hlc _ _ hld 4981 _ _ (by omega) (by omega) jpM
 have sp:=j7j nv14 cs hE 5000 ht 60 [] true 0 [] (.inr ⟨rfl,rfl,rfl⟩) rfl (by simp) _ _ hlh _ _ hli 4979 _ _ (by omega) (by omega) jq3
 have st:=(jk6 nv14 cs hE 5000 ht 60 [] true 0 [] (.inr ⟨rfl,rfl,rfl⟩) rfl (by simp) _ _ hlk 4969 _ _ (by omega) (by omega) jpF).2
 have ss:=j7j nv14 cs hE 5000 ht 60 [] true 0 [] (.inr ⟨rfl,rfl,rfl⟩) rfl (by simp) _ _ ho _ _ h3 4967 _ _ (by omega) (by omega) jqG
 have sn:=jid nv14 cs hE 5000 ht 60 [] true 0 [] (.inr ⟨rfl,rfl,rfl⟩) rfl (by simp) _ _ hlh 4950 _ _ (by omega) (by omega) jqz
 have sl:=(jly nv14 cs hE 5000 ht 60 [] true 0 [] (.inr ⟨rfl,rfl,rfl⟩) rfl (by simp) _ _ hll 4946 _ _ (by omega) (by omega) jpQ).2
 have sr:=jfA cs 5000 4939
 have su:=jmI cs 5000 4939
 have hT:=joO jq6
 have hZ:=jo6 jpT
 have hI:=jqV
 simp only [Bool.and_eq_true] at hI
 obtain ⟨i1,i2,i3,i4,i5,i6,i7⟩:=hI
 have i1:=jaY i1
 have i2:=jaY i2
 have i3:=jaY i3
 have i4:=jo6 i4
 simp only [errB,errL,errV] at sa sb sp st ss sn sl
 change Pf C1 _ _ [lpV] at i1
 change Pf C1 _ _ [lnV] at i2
 change Pf C1 _ _ [liV] at i3
 obtain ⟨la1,la2,la3,la4,la5,la6,la7,la8,la9,lax,lay,-,rfl,-⟩:=hla.open
 obtain ⟨lb1,lb2,lb3,lb4,lb5,lb6,lb7,lb8,lb9,lbx,lby,-,rfl,-⟩:=hlb.open
 obtain ⟨lc1,lc2,lc3,lc4,lc5,lc6,lc7,lc8,lc9,lcx,lcy,-,rfl,-⟩:=hlc.open
 obtain ⟨ld1,ld2,ld3,ld4,ld5,ld6,ld7,ld8,ld9,ldx,ldy,-,rfl,-⟩:=hld.open
 obtain ⟨lh1,lh2,lh3,lh4,lh5,lh6,lh7,lh8,lh9,lhx,lhy,-,rfl,-⟩:=hlh.open
 obtain ⟨li1,li2,li3,li4,li5,li6,li7,li8,li9,lix,liy,-,rfl,-⟩:=hli.open
 obtain ⟨lk1,lk2,lk3,lk4,lk5,lk6,lk7,lk8,lk9,lkx,lky,-,rfl,-⟩:=hlk.open
 obtain ⟨ll1,ll2,ll3,ll4,ll5,ll6,ll7,ll8,ll9,llx,lly,-,rfl,-⟩:=hll.open
 generalize j3y 1=w1 at *
 generalize j3y 2=w2 at *
 generalize j3y 3=w3 at *
 generalize lpV=wp at *
 generalize lnV=wn at *
 generalize liV=wi at *
 obtain ⟨h11,h12,h13,h14,h15,h16,h17,h18,h19,h1x,h1y,-,rfl,-⟩:=h1.open
 obtain ⟨h21,h22,h23,h24,h25,h26,h27,h28,h29,h2x,h2y,-,rfl,-⟩:=h2.open
 obtain ⟨h31,h32,h33,h34,h35,h36,h37,h38,h39,h3x,h3y,-,rfl,-⟩:=h3.open
 obtain ⟨ho1,ho2,ho3,ho4,ho5,ho6,ho7,ho8,ho9,hox,hoy,-,rfl,-⟩:=ho.open
 obtain ⟨p1,p2,p3,p4,p5,rfl⟩:=jcr i5
 obtain ⟨n1,n2,n3,n4,n5,rfl⟩:=jcr i6
 obtain ⟨j1,j2,j3,j4,j5,rfl⟩:=jcr i7
 obtain ⟨t1,t2,t3,t4,t5,t6,t7,t8,t9,te⟩:=j0a (pi_ tNat (pi_ tNat tNat))
 obtain ⟨u1,u2,u3,u4,u5,u6,u7,u8,u9,ue⟩:=j0a (pi_ tNat tNat)
 rw [ue] at st hT
 obtain ⟨z1,z2,z3,z4,z5,ze⟩:=j0z (.mk 1 0 [])
 rw [ze] at sl hZ
 refine j00 Tryz.func7 rfl rfl rfl ?_
 repeat' ((conv=>whnf);first|apply gT|apply gF|apply gO|refine j03 rfl ?_|refine jgz hB rfl rfl (j1X rfl ?_)|refine jot ?_|refine j3C ?_|refine j01 cla rfl rfl ?_|refine j01 clb rfl rfl ?_|refine j01 clc rfl rfl ?_|refine j01 cld rfl rfl ?_|refine j01 clh rfl rfl ?_|refine j01 cli rfl rfl ?_|refine j01 clk rfl rfl ?_|refine j01 cll rfl rfl ?_|refine j01 c1 rfl rfl ?_|refine j01 c2 rfl rfl ?_|refine j01 c3 rfl rfl ?_|refine j01 co rfl rfl ?_|refine j01 hT rfl rfl ?_|refine j01 hZ rfl rfl ?_|refine j01 i1 rfl rfl ?_|refine j01 i2 rfl rfl ?_|refine j01 i3 rfl rfl ?_|refine j01 i4 rfl rfl ?_|refine j02 sa rfl rfl rfl rfl rfl rfl rfl ?_|refine j02 sb rfl rfl rfl rfl rfl rfl rfl ?_|refine j02 sp rfl rfl rfl rfl rfl rfl rfl ?_|refine j02 st rfl rfl rfl rfl rfl rfl rfl ?_|refine j02 ss rfl rfl rfl rfl rfl rfl rfl ?_|refine j02 sn rfl rfl rfl rfl rfl rfl rfl ?_|refine j02 sl rfl rfl rfl rfl rfl rfl rfl ?_|refine j02 sr rfl rfl rfl rfl rfl rfl rfl ?_|refine j02 su rfl rfl rfl rfl rfl rfl rfl ?_)
 all_goals (try (conv=>whnf))
 all_goals rfl
open Go Go.Am Go.Gw
theorem jev (l:Lv) (v:PV) (h:LvP l v) (m:Lv) (w:PV) (h':LvP m w) (vs:List Int) (b:Bool) (z:Nat) (hz:z=1∨vs=[]):Pf C1 4 [v,w,.sl b z (ints vs)] [bv true]:=by
 have ha:=jg0
 have n1:=j3M l v h 25 (by omega) (by omega)
 have n2:=j3M m w h' 25 (by omega) (by omega)
 have e1:=j8U l 25 (by omega)
 have e2:=j8U m 25 (by omega)
 have r1:=jb0 l v h 4
 have r2:=jb0 m w h' 4
 have c1:=jdx l v h m w h'
 have c2:=jgB l v h m w h'
 have hli:(ints vs).length=vs.length:=by simp [ints]
 have p1:LvP (j2V l m) (encL (j2V l m)):=by
  unfold j2V
  split
  ·exact j8V _ _ (jlI 0)
  ·split
   ·exact j8V _ _ h'
   ·exact j9Q (by simp) (by
     intro x hx
     simp only [List.mem_cons,List.not_mem_nil,or_false] at hx
     rcases hx with rfl|rfl
     ·exact h.w
     ·exact h'.w)
 have p2:LvP (j3K l m) (encL (j3K l m)):=j9Q (by simp) (by
     intro x hx
     simp only [List.mem_cons,List.not_mem_nil,or_false] at hx
     rcases hx with rfl|rfl
     ·exact h.w
     ·exact h'.w)
 have s1:=j9H _ _ p1 _ _ p2
 have o1:=j6S _ _ p1
 have o2:=j6S _ _ p2
 by_cases hlen:vs.length ≤ 20
 ·have v1:=jeD _ _ p1 vs b z hz hlen
  have v2:=jeD _ _ p2 vs b z hz hlen
  have law:j0o l ≤ 25→j0o m ≤ 25→j0l l 4=true→j0l m 4=true→j4S (j2V l m) (j3K l m)=true∧jab (j2V l m) vs=jab (j3K l m) vs∧j2R (j2V l m) ≤ j2R (j3K l m):=fun q1 q2 q3 q4=>jmE q3 q4 (by omega) vs
  obtain ⟨y1,y2,y3,y4,y5,ye⟩:=j0z (j2V l m)
  obtain ⟨x1,x2,x3,x4,x5,xe⟩:=j0z (j3K l m)
  rw [ye] at c1 s1 o1 v1
  rw [xe] at c2 s1 o2 v2
  obtain ⟨k1,nn1,ls1,b1,z1,xs1,-,rfl,-⟩:=h.open
  obtain ⟨k2,nn2,ls2,b2,z2,xs2,-,rfl,-⟩:=h'.open
  refine j00 Tryz.func4 rfl rfl rfl ?_
  repeat' ((conv=>whnf);first|apply gT|apply gF|apply gN|refine gA ?_|refine gB ?_|apply gE<;>intro h|refine gC ?_|refine gD ?_|apply gM<;>intro h|apply gO|apply gP|refine j03 rfl ?_|refine j01 ha rfl rfl ?_|refine j01 n1 rfl rfl ?_|refine j01 n2 rfl rfl ?_|refine j01 r1 rfl rfl ?_|refine j01 r2 rfl rfl ?_|refine j01 c1 rfl rfl ?_|refine j01 c2 rfl rfl ?_|refine j05 s1 (fun _=>?_)|refine j05 v1 (fun _=>?_)|refine j05 v2 (fun _=>?_)|refine j05 o1 (fun _=>?_)|refine j05 o2 (fun _=>?_)|apply gK)
  all_goals (try (conv=>whnf))
  all_goals first|rfl|skip
  all_goals have g:=law (by omega) (by omega) (by assumption) (by assumption)
  ·rw [decide_eq_true g.2.2]
  ·exact absurd g.2.1 (by assumption)
  ·have hf:j4S (j2V l m) (j3K l m)=false:=by assumption
   exact absurd (g.1.symm.trans hf) (by simp)
 ·obtain ⟨k1,nn1,ls1,b1,z1,xs1,-,rfl,-⟩:=h.open
  obtain ⟨k2,nn2,ls2,b2,z2,xs2,-,rfl,-⟩:=h'.open
  refine j00 Tryz.func4 rfl rfl rfl ?_
  repeat' ((conv=>whnf);first|apply gT|apply gF|apply gN|refine gA ?_|refine gB ?_|apply gE<;>intro h|refine gC ?_|refine gD ?_|apply gM<;>intro h|refine j03 rfl ?_|refine j01 ha rfl rfl ?_|refine j01 n1 rfl rfl ?_|refine j01 n2 rfl rfl ?_|refine j01 r1 rfl rfl ?_|refine j01 r2 rfl rfl ?_)
  all_goals (try (conv=>whnf))
  all_goals first|rfl|(exfalso; omega)
end Go.Proofs.YtljnahbgfmflaaaGreatDoor

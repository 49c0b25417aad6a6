/-
  Settings for the document's layer 18: the head's row is the caller's own (ref04.Spine), loops may number the store without gaps (ref18.front). No statement of the seat.
-/
import Derived.Test.YtehhihdahalfeaaGreatDoorZFo
import Derived.Test.YtehhihdahalfeaaGreatDoorZEb
set_option linter.unusedVariables false
set_option linter.unusedSimpArgs false
set_option linter.unnecessarySimpa false
namespace Go.Proofs.YtehhihdahalfeaaGreatDoor
open Go Go.Am Go.Gw
/-- front alone is gone through; loops number the store without gaps -/
def isF5 (f:Nat):Bool:=Nat.beq f 60
noncomputable def C5:Cfg:=⟨C1.P,C1.fz,C1.raw,C1.keep,C1.lit,fun f=>match isF5 f with
  |true=>none
  |false=>some (natOf C1 f),C1.fzc,C1.pst,true⟩
theorem c5_nat:NatOk C5:=fun f F hF=>by
  have hF:(match isF5 f with
    |true=>none
    |false=>some (natOf C1 f))=some F:=hF
  split at hF
  · cases hF
  · cases hF
    exact natOf_does (fun n=>(c1_ok n).call) f
theorem c5_ok (n:Nat):EvOk C5 (ev C5 n):=ev_ok (by kernel_rfl) (by kernel_rfl) c5_nat n
theorem up5 {f:FuncId} {args rs:List PV} (hf:isF5 f=false) (h:Pf C1 f args rs):Pf C5 f args rs:=pf_word (C:=C1) (show (match isF5 f with
    |true=>none
    |false=>some (natOf C1 f))=some (natOf C1 f) by rw [hf]) h
/-- these are gone through -/
def isF4 (f:Nat):Bool:=memN [147,105,64,61,24,26,4] f
noncomputable def nat4 (f:Nat):Option (List PV→Sto→Option (AEnd × Sto)):=match isF4 f with
  |true=>none
  |false=>match isF5 f with
    |true=>some (natOf C5 f)
    |false=>match Nat.beq f 22 with
      |true=>some (natOf C3 f)
      |false=>some (natOf C1 f)
noncomputable def C4:Cfg:=⟨C1.P,C1.fz,C1.raw,fun f=>Nat.beq f 147,C1.lit,nat4,C1.fzc,C1.pst,false⟩
theorem c4_nat:NatOk C4:=fun f F hF=>by
  have hF:nat4 f=some F:=hF
  unfold nat4 at hF
  split at hF
  · cases hF
  · split at hF
    · cases hF
      exact natOf_does (C:=C5) (fun n=>(c5_ok n).call) f
    · split at hF
      · cases hF
        exact natOf_does (C:=C3) (fun n=>(c3_ok n).call) f
      · cases hF
        exact natOf_does (C:=C1) (fun n=>(c1_ok n).call) f
theorem c4_ok (n:Nat):EvOk C4 (ev C4 n):=ev_ok (by kernel_rfl) (by kernel_rfl) c4_nat n
theorem up4 {f:FuncId} {args rs:List PV} (hf:(isF4 f || (isF5 f || Nat.beq f 22))=false) (h:Pf C1 f args rs):Pf C4 f args rs:=by
  rw [Bool.or_eq_false_iff,Bool.or_eq_false_iff] at hf
  obtain ⟨h1,h2,h3⟩:=hf
  refine pf_word (C:=C1) (show nat4 f=_ from ?_) h
  unfold nat4
  rw [h1,h2,h3]
theorem up4_5 {args rs:List PV} (h:Pf C5 60 args rs):Pf C4 60 args rs:=pf_word (C:=C5) (C':=C4) rfl h
theorem up4_3 {args rs:List PV} (h:Pf C3 22 args rs):Pf C4 22 args rs:=pf_word (C:=C3) (C':=C4) rfl h
/-- what a term is applied to, as a row of one's own -/
def spO (l:List Tm):PV × Sto:=match l with
  |[]=>(.sl true 5 [],[])
  |a :: r=>(.ms 0 (r.length + 1),[.row false 25 5 ((a :: r).map encT)])
theorem argsF_app {n:Int} {s:List UInt8} {ls:List Lv} {f a:Tm}:argsF (.mk 4 n s ls [f,a])=argsF f ++ [a]:=by
  rw [argsF,spF_app,List.reverse_cons]
  rfl
set_option maxHeartbeats 2000000 in
set_option maxRecDepth 100000 in
theorem Spine4_can (t:Tm):∀ v,TmP t v→(spF t).2.length ≤ 2000→Finds C4 147 [v] [] fun r st=>r = .ret [encT (spF t).1,(spO (argsF t)).1]∧st=(spO (argsF t)).2:=by
  induction t using Tm.ind with
  |_ k n s ls ts ih =>
  intro v h hb
  have hcp:=up4 rfl (CopyTerm_can _ v h)
  obtain ⟨e1,e2,e3,e4,e5,e6,e7,e8,e9,he⟩:=encT_open (.mk k n s ls ts)
  obtain ⟨_,_,_,_,_,b,z,xs,c,y,ys,⟨rfl,rfl,rfl,rfl,rfl⟩,rfl,hz,hxs,hlen,hbd,hy,hys,hlen2,hbd2,hsl⟩:=h.open
  by_cases hk:k=4∧ts.length=2
  · obtain ⟨rfl,h2⟩:=hk
    match ts,h2 with
    |[f,a],_ =>
      obtain ⟨va,hva,hla⟩:=hys.at (by rfl:[f,a][1]? = some a)
      obtain ⟨vb,hvb,hlb⟩:=hys.at (by rfl:[f,a][0]? = some f)
      rw [spF_app] at hb
      have hb1:(spF f).2.length + 1 ≤ 2000:=hb
      have hf:=ih f (by simp) vb hlb (by omega)
      have hca:=up4 rfl (CopyTerm_can a va hla)
      obtain ⟨g1,g2,g3,g4,g5,g6,g7,g8,g9,hg⟩:=encT_open a
      obtain ⟨j1,j2,j3,j4,j5,j6,j7,j8,j9,hj⟩:=encT_open (spF f).1
      rw [hg] at hca
      have hyl:ys.length=2:=hys.len
      have hal:(argsF f).length + 1 ≤ 2000:=by simpa [argsF] using hb1
      obtain ⟨k3,n3,s3,l3,t3,b3,z3,x3,c3,y3,ys3,rfl,rfl,-⟩:=hla.open
      obtain ⟨k2,n2,s2,l2,t2,b2,z2,x2,c2,y2,ys2,rfl,rfl,-⟩:=hlb.open
      rw [spF_app,argsF_app]
      dsimp only
      rw [hj] at hf ⊢
      generalize argsF (.mk k2 n2 s2 l2 t2)=A at hf hal
      cases A with
      |nil =>
        dsimp only [spO] at hf
        have e:encT (.mk k3 n3 s3 l3 t3)=_:=hg
        simp only [List.nil_append,spO,List.map_cons,List.map_nil,hg]
        refine run_intro Tryz.func147 rfl rfl rfl ?_
        repeat' ((conv=>whnf);first|refine gT ?_|refine gF ?_|refine VIf.not ?_|refine gA ?_|refine gB ?_|refine VIf.dec (fun h=>?_) (fun h=>?_)|refine gC ?_|refine gD ?_|refine VIf.mk (fun h=>?_) (fun h=>?_)|refine gO ?_|refine gP ?_|refine VNat.mk _ rfl ?_|refine gV ?_|refine vret_pf rfl ?_|refine vret_take rfl rfl ?_|refine VIdx.mk _ hva ?_|refine VIdx.mk _ hvb ?_|refine VOk.mk (szOk_of rfl hy) ?_|refine vcall_pf hca rfl rfl ?_|refine finds_pf hca (fun _=>?_)|refine gK ?_)
        all_goals (try (conv=>whnf))
        · refine vcall_pure rfl (Finds.mono hf ?_)
          rintro _ _ ⟨rfl,rfl⟩
          refine ⟨rfl,?_⟩
          repeat' ((conv=>whnf);first|refine gT ?_|refine gF ?_|refine VIf.not ?_|refine gA ?_|refine gB ?_|refine VIf.dec (fun h=>?_) (fun h=>?_)|refine gC ?_|refine gD ?_|refine VIf.mk (fun h=>?_) (fun h=>?_)|refine gO ?_|refine gP ?_|refine VNat.mk _ rfl ?_|refine gV ?_|refine vret_pf rfl ?_|refine vret_take rfl rfl ?_|refine VIdx.mk _ hva ?_|refine VIdx.mk _ hvb ?_|refine VOk.mk (szOk_of rfl hy) ?_|refine vcall_pf hca rfl rfl ?_|refine finds_pf hca (fun _=>?_)|refine gK ?_)
          all_goals (try (conv=>whnf))
          refine vret_sq (.inl ⟨rfl,rfl,rfl⟩) rfl (gc_sh (.cons (sh_box rfl rfl) (.cons (sh_box rfl rfl) (.cons (sh_box rfl rfl) (.cons (sh_row rfl) .nil)))) (.cons sh_dead (.cons sh_dead (.cons sh_dead (.cons (sh_row rfl) .nil)))) rfl rfl rfl rfl rfl) (squeeze_shr (.cons shr_dead (.cons shr_dead (.cons shr_dead (.cons (shr_row rfl) .nil)))) rfl rfl rfl rfl) ⟨rfl,rfl⟩
        · exfalso; omega
      |cons d r =>
        dsimp only [spO] at hf
        simp only [List.cons_append,spO]
        refine run_intro Tryz.func147 rfl rfl rfl ?_
        repeat' ((conv=>whnf);first|refine gT ?_|refine gF ?_|refine VIf.not ?_|refine gA ?_|refine gB ?_|refine VIf.dec (fun h=>?_) (fun h=>?_)|refine gC ?_|refine gD ?_|refine VIf.mk (fun h=>?_) (fun h=>?_)|refine gO ?_|refine gP ?_|refine VNat.mk _ rfl ?_|refine gV ?_|refine vret_pf rfl ?_|refine vret_take rfl rfl ?_|refine VIdx.mk _ hva ?_|refine VIdx.mk _ hvb ?_|refine VOk.mk (szOk_of rfl hy) ?_|refine vcall_pf hca rfl rfl ?_|refine finds_pf hca (fun _=>?_)|refine gK ?_)
        all_goals (try (conv=>whnf))
        · refine vcall_made rfl (Finds.mono hf ?_)
          rintro _ _ ⟨rfl,rfl⟩
          refine ⟨rfl,?_⟩
          refine vback_f (.cons (shr_row (encTs_pure _ 6)) .nil) rfl ?_
          have hlen3:(List.map encT (d :: r)).length=r.length + 1:=by simp
          have hp8:((d :: r).map encT ++ [PV.ag [iv g1,iv g2,sv g3,.sl g4 g5 g6,.sl g7 g8 g9]]).all (pur 8)=true:=by
            rw [← hg,show (d :: r).map encT ++ [encT (Tm.mk k3 n3 s3 l3 t3)]=(d :: r ++ [Tm.mk k3 n3 s3 l3 t3]).map encT by simp]
            exact encTs_pure _ 6
          have e1:(d :: (r ++ [Tm.mk k3 n3 s3 l3 t3])).map encT=(d :: r).map encT ++ [PV.ag [iv g1,iv g2,sv g3,.sl g4 g5 g6,.sl g7 g8 g9]]:=by rw [← hg]; simp
          have e2:(r ++ [Tm.mk k3 n3 s3 l3 t3]).length + 1=r.length + 1 + 1:=by simp
          rw [e1,e2]
          repeat' ((conv=>whnf);first|refine gT ?_|refine gF ?_|refine VIf.not ?_|refine gA ?_|refine gB ?_|refine VIf.dec (fun h=>?_) (fun h=>?_)|refine gC ?_|refine gD ?_|refine VIf.mk (fun h=>?_) (fun h=>?_)|refine gO ?_|refine gP ?_|refine VNat.mk _ rfl ?_|refine gV ?_|refine vret_pf rfl ?_|refine vret_take rfl rfl ?_|refine VIdx.mk _ hva ?_|refine VIdx.mk _ hvb ?_|refine VOk.mk (szOk_of rfl hy) ?_|refine vcall_pf hca rfl rfl ?_|refine finds_pf hca (fun _=>?_)|refine VOk.mk (grow_ok (w:=80) (r:=140737488355328) hlen3 rfl rfl rfl rfl (by simp only [List.length_cons,List.length_nil] at hal ⊢; omega) (by simp only [List.length_cons,List.length_nil] at hal ⊢; omega)) ?_|refine gK ?_)
          all_goals (try (conv=>whnf))
          refine vret_sq (.inl ⟨rfl,rfl,rfl⟩) rfl (gc_sh (.cons (sh_box rfl rfl) (.cons (sh_box rfl rfl) (.cons (sh_row hp8) (.cons (sh_box rfl rfl) .nil)))) (.cons sh_dead (.cons sh_dead (.cons (sh_row hp8) .nil))) rfl rfl rfl rfl rfl) (squeeze_shr (.cons shr_dead (.cons shr_dead (.cons (shr_row hp8) .nil))) rfl rfl rfl rfl) ⟨rfl,rfl⟩
        · exfalso; omega
  · rw [spF_off hk,argsF,spF_off hk,he]
    rw [he] at hcp
    refine run_intro Tryz.func147 rfl rfl rfl ?_
    repeat' ((conv=>whnf);first|refine gT ?_|refine gF ?_|refine VIf.not ?_|refine gA ?_|refine gB ?_|refine VIf.dec (fun h=>?_) (fun h=>?_)|refine gC ?_|refine gD ?_|refine VIf.mk (fun h=>?_) (fun h=>?_)|refine gO ?_|refine gP ?_|refine VNat.mk _ rfl ?_|refine gV ?_|refine vret_pf rfl ?_|refine vret_take rfl rfl ?_|refine vcall_pf hcp rfl rfl ?_|refine finds_pf hcp (fun _=>?_)|refine gK ?_)
    all_goals (try (conv=>whnf))
    all_goals first|exact ⟨rfl,rfl⟩|(exfalso; apply hk; constructor <;> omega)
end Go.Proofs.YtehhihdahalfeaaGreatDoor
namespace Go.Proofs.YtehhihdahalfeaaGreatDoor
open Go Go.Am Go.Gw
def zeroL:PV:=.ag [iv 0,iv 0,.sl true 0 []]
def frontV (d:Dc):List PV:=if frontD d=0 then [iv (idxD d),encL (lvD d),iv 0] else [iv 0,zeroL,iv (frontD d)]
theorem idxV_open (d:Dc):∃ n k m b z xs ok,idxV d=[iv n,.ag [iv k,iv m,.sl b z xs],bv ok]∧(ok=true→¬ idxBad d∧n=idxD d∧encL (lvD d) = .ag [iv k,iv m,.sl b z xs])∧(ok=false→idxBad d):=by
  unfold idxV
  obtain ⟨k,m,b,z,xs,he⟩:=encL_open (lvD d)
  by_cases h:idxBad d
  · rw [if_pos h]
    exact ⟨_,_,_,_,_,_,_,rfl,(fun e=>by cases e),fun _=>h⟩
  · rw [if_neg h,he]
    exact ⟨_,_,_,_,_,_,_,rfl,fun _=>⟨h,rfl,rfl⟩,(fun e=>by cases e)⟩
/-- is none of these the i-th? -/
theorem apt_next {l seen:List (List UInt8)} {s:List UInt8} (h1:¬ s=[]) (h2:s ∉ seen):aptGo seen (s :: l)=aptGo (s :: seen) l:=by
  rw [aptGo,if_neg]
  rintro (e|e)
  · exact h1 e
  · exact h2 e
theorem apt_stop {l seen:List (List UInt8)} {s:List UInt8} (h:s=[]∨s ∈ seen):aptGo seen (s :: l)=false:=by
  rw [aptGo,if_pos h]
theorem front_hd {d:Dc} (h:formedF d=true∧d.k=5):frontD d=(if 4 ≤ d.p∨16 < (piF d.ty).1.length then 15
  else if aptGo [] (namesD d)=false then 14
  else if ((piF d.ty).1.length:Int) < d.fx∨¬ (piF d.ty).2.kind=2 then 19
  else 0):=by rw [frontD,if_neg (by simp [h])]
set_option maxHeartbeats 2000000 in
set_option maxRecDepth 100000 in
theorem front18_can (d:Dc) (v:PV) (h:DcP d v) (hcs:d.cs.length ≤ 1000000):Pf C5 60 [v] (frontV d):=by
  have hfo:=up5 rfl (Formed8_can d v h)
  obtain ⟨nb,hnn⟩:=names9_can d v h hcs
  replace hnn:=up5 rfl hnn
  by_cases hF:formedF d=true∧d.k=5
  · obtain ⟨⟨hnf,hrt⟩,hk5⟩:=formedD hF.1
    obtain ⟨hfx,hcs8,hcsr⟩:=hk5 hF.2
    have hany:=rightT_any hrt
    have hix:=up5 rfl (indices18_can d v h _ (any_parts hany).2 (any_dep hany) hfx)
    obtain ⟨n,lk,lm,lb,lz,lx,ok,hV,hok1,hok0⟩:=idxV_open d
    have hsmall:=namesD_small hnf hcs8 (fun c hc=>(hcsr c hc).1)
    have hfr:=front_hd hF
    rw [hV] at hix
    rw [hF.1] at hfo
    obtain ⟨a1,a2,a3,a4,a5,a6,a7,a8,a9,b1,b2,b3,b4,b5,b6,b7,b8,b9,cb,cz,cx,rfl,hty,hvl,hz,hxs,hlen⟩:=h.parts
    have hret:∀ e,frontD d=e→e ≠ 0→AEnd.ret [iv 0,.ag [iv 0,iv 0,.sl true 0 []],iv e] = .ret (frontV d):=fun e he h0=>by
      rw [frontV,he,if_neg h0]
      rfl
    generalize hNN:namesD d=NN at hnn hsmall hfr
    have hsl2:(svs NN).length=NN.length:=by simp [svs]
    refine run_intro Tryz.func60 rfl rfl rfl ?_
    repeat' ((conv=>whnf);first|refine gT ?_|refine gF ?_|refine VIf.not ?_|refine gA ?_|refine gB ?_|refine VIf.dec (fun h=>?_) (fun h=>?_)|refine gC ?_|refine gD ?_|refine VIf.mk (fun h=>?_) (fun h=>?_)|refine gO ?_|refine gP ?_|refine VNat.mk _ rfl ?_|refine gV ?_|refine vret_pf rfl ?_|refine vret_take rfl rfl ?_|refine vcall_pf hfo rfl rfl ?_|refine vcall_pf hix rfl rfl ?_|refine finds_pf hfo (fun _=>?_)|refine finds_pf hix (fun _=>?_)|refine gK ?_)
    all_goals (try (conv=>whnf))
    · refine loop_over (G:=Tm × PV × Nat) (fun g=>[(9,match g.2.2 with
          |0=>.bp 3 0
          |_ + 1=>.bp 4 0),(8,iv g.2.2)]) (fun g=>[.box 46 [iv d.k,iv d.p,sv d.nm,iv a1,iv a2,sv a3,.sl a4 a5 a6,.sl a7 a8 a9,iv b1,iv b2,sv b3,.sl b4 b5 b6,.sl b7 b8 b9,iv d.fx,.sl cb cz cx],.box 50 [iv 0,iv 0,.sl true 0 []],.box 50 [iv lk,iv lm,.sl lb lz lx],.box 25 [iv a1,iv a2,sv a3,.sl a4 a5 a6,.sl a7 a8 a9]] ++ (match g.2.2 with
          |0=>[]
          |_ + 1=>[.box 25 g.2.1.cells])) (fun g=>TmP g.1 g.2.1∧(∃ kk,allT g.1 4 kk=true)∧g.2.2 + depT g.1 ≤ 2000∧(piF d.ty).1.length=g.2.2 + (piF g.1).1.length∧(g.2.2=0→g.2.1 = .ag [iv a1,iv a2,sv a3,.sl a4 a5 a6,.sl a7 a8 a9])) (fun g=>sizT g.1) (d.ty,.ag [iv a1,iv a2,sv a3,.sl a4 a5 a6,.sl a7 a8 a9],0) ⟨hty,⟨_,(any_parts hany).2⟩,by have:=any_dep hany; dsimp only; omega,by simp,fun _=>rfl⟩ rfl rfl ?_
      rintro ⟨u,w,q⟩ ⟨hu,⟨kk,hall1⟩,hdq,hpl,hq0⟩
      dsimp only at hu hall1 hdq hpl hq0 ⊢
      obtain ⟨k1,nn,s,ls,ts,b,z,xs,c,y,ys,rfl,rfl,hz1,hxs1,hlen1,hbd1,hy,hys,hlen2,hbd2,hsl⟩:=hu.open
      have hexit:¬ k1=6→(piF d.ty).1.length=q:=fun h6=>by
        rw [piF_off h6] at hpl
        simpa using hpl
      cases q with
      |zero =>
        have hw0:=hq0 rfl
        injection hw0 with hw0
        injection hw0 with e1 hw0
        injection hw0 with e2 hw0
        injection hw0 with e3 hw0
        injection hw0 with e4 hw0
        injection hw0 with e5 hw0
        simp only [PV.cells,List.append_nil,← e1,← e2,← e3,← e4,← e5] at hnn ⊢
        repeat' ((conv=>whnf);first|refine gT ?_|refine gF ?_|refine VIf.not ?_|refine gA ?_|refine gB ?_|refine VIf.dec (fun h=>?_) (fun h=>?_)|refine gC ?_|refine gD ?_|refine VIf.mk (fun h=>?_) (fun h=>?_)|refine gO ?_|refine gP ?_|refine VNat.mk _ rfl ?_|refine gV ?_|refine vret_pf rfl ?_|refine vret_take rfl rfl ?_|refine vcall_pf hnn rfl rfl ?_|refine finds_pf hnn (fun _=>?_)|refine gK ?_)
        all_goals (try (conv=>whnf))
        · obtain rfl:k1=6:=h
          obtain ⟨a',b',rfl,-,hb'⟩:=allT_two hall1 rfl
          obtain ⟨vb,hvb,hlb⟩:=hys.at (by rfl:[a',b'][1]? = some b')
          obtain ⟨k2,n2,s2,l2,t2,b2',z2,x2,c2,y2,ys2,rfl,rfl,-⟩:=hlb.open
          rw [piF_pi] at hpl
          simp only [depT,depTs] at hdq
          refine VIdx.mk _ hvb (VOk.mk (szOk_of rfl hy) ?_)
          repeat' ((conv=>whnf);first|refine gT ?_|refine gF ?_|refine VIf.not ?_|refine gA ?_|refine gB ?_|refine VIf.dec (fun h=>?_) (fun h=>?_)|refine gC ?_|refine gD ?_|refine VIf.mk (fun h=>?_) (fun h=>?_)|refine gO ?_|refine gP ?_|refine VNat.mk _ rfl ?_|refine gV ?_|refine vret_pf rfl ?_|refine vret_take rfl rfl ?_|refine gK ?_)
          all_goals (try (conv=>whnf))
          exact VAgain.sq _ rfl _ (gc_sh (.cons (sh_box rfl rfl) (.cons (sh_box rfl rfl) (.cons (sh_box rfl rfl) (.cons (sh_box rfl rfl) (.cons (sh_box rfl rfl) .nil))))) (.cons (sh_box rfl rfl) (.cons (sh_box rfl rfl) (.cons (sh_box rfl rfl) (.cons (sh_box rfl rfl) (.cons (sh_box rfl rfl) .nil))))) rfl rfl rfl rfl rfl) rfl _ _ (squeeze_same rfl) ⟨(.mk k2 n2 s2 l2 t2,.ag [iv k2,iv n2,sv s2,.sl b2' z2 x2,.sl c2 y2 ys2],_ + 1),⟨hlb,⟨_,hb'⟩,by simp only [depT]; omega,by simp only [List.length_cons] at hpl; dsimp only; omega,fun e=>by simp at e⟩,by simp only [sizT,sizTs]; omega,rfl⟩
        all_goals have h6:=hexit (by assumption)
        all_goals try exact hret 15 (by rw [hfr,if_pos (by omega)]) (by omega)
        skip
        have hfr2:frontD d=(if aptGo [] NN=false then 14 else if ((piF d.ty).1.length:Int) < d.fx∨¬ (piF d.ty).2.kind=2 then 19 else 0):=by rw [hfr,if_neg (by omega)]
        refine loop_over (G:=Nat) (fun i=>[(11,iv i)]) (fun _=>_) (fun i=>i ≤ NN.length∧aptGo (NN.take i).reverse (NN.drop i)=aptGo [] NN) (fun i=>NN.length - i) 0 ⟨by omega,rfl⟩ rfl rfl ?_
        rintro i ⟨hi,hall2⟩
        dsimp only at hi hall2 ⊢
        repeat' ((conv=>whnf);first|refine gT ?_|refine gF ?_|refine VIf.not ?_|refine gA ?_|refine gB ?_|refine VIf.dec (fun h=>?_) (fun h=>?_)|refine gC ?_|refine gD ?_|refine VIf.mk (fun h=>?_) (fun h=>?_)|refine gO ?_|refine gP ?_|refine VNat.mk _ rfl ?_|refine gV ?_|refine vret_pf rfl ?_|refine vret_take rfl rfl ?_|refine gK ?_)
        all_goals (try (conv=>whnf))
        · have hi':i < NN.length:=by omega
          obtain ⟨nm,hs⟩:∃ nm,NN[i]? = some nm:=⟨_,List.getElem?_eq_getElem hi'⟩
          have hd:=drop_at hs
          have h14:nm=[]∨nm ∈ (NN.take i).reverse→AEnd.ret [iv 0,.ag [iv 0,iv 0,.sl true 0 []],iv 14] = .ret (frontV d):=fun e=>hret 14 (by rw [hfr2,← hall2,hd,apt_stop e,if_pos rfl]) (by omega)
          refine loop_over (G:=Nat) (fun k=>[(12,iv k)]) (fun _=>_) (fun k=>k ≤ i∧∀ j,j < k→NN[j]? ≠ some nm) (fun k=>i - k) 0 ⟨by omega,fun j hj=>by omega⟩ rfl rfl ?_
          rintro k ⟨hk,hne⟩
          dsimp only at hk hne ⊢
          repeat' ((conv=>whnf);first|refine gT ?_|refine gF ?_|refine VIf.not ?_|refine gA ?_|refine gB ?_|refine VIf.dec (fun h=>?_) (fun h=>?_)|refine gC ?_|refine gD ?_|refine VIf.mk (fun h=>?_) (fun h=>?_)|refine gO ?_|refine gP ?_|refine VNat.mk _ rfl ?_|refine gV ?_|refine vret_pf rfl ?_|refine vret_take rfl rfl ?_|refine gK ?_)
          all_goals (try (conv=>whnf))
          · have hk':k < i:=by omega
            obtain ⟨nm2,hs2⟩:∃ nm2,NN[k]? = some nm2:=⟨_,List.getElem?_eq_getElem (by omega)⟩
            repeat' ((conv=>whnf);first|refine gT ?_|refine gF ?_|refine VIf.not ?_|refine gA ?_|refine gB ?_|refine VIf.dec (fun h=>?_) (fun h=>?_)|refine gC ?_|refine gD ?_|refine VIf.mk (fun h=>?_) (fun h=>?_)|refine gO ?_|refine gP ?_|refine VNat.mk _ rfl ?_|refine gV ?_|refine vret_pf rfl ?_|refine vret_take rfl rfl ?_|refine VIdx.mk _ (svs_at hs2) ?_|refine VIdx.mk _ (svs_at hs) ?_|refine VOk.mk (szOk_of rfl (.inl rfl)) ?_|refine vres_str ?_|refine gK ?_)
            all_goals (try (conv=>whnf))
            · have e:nm2=nm:=by simpa using h
              subst e
              exact h14 (.inr (List.mem_reverse.2 (List.mem_of_getElem? (i:=k) (by rw [List.getElem?_take,if_pos hk']; exact hs2))))
            · have e:¬ nm2=nm:=by simpa using h
              refine VAgain.sq _ rfl _ (gc_take rfl rfl rfl) rfl _ _ (squeeze_same rfl) ⟨k + 1,⟨by omega,fun j hj=>?_⟩,by omega,rfl⟩
              rcases Nat.lt_or_ge j k with h9|h9
              · exact hne j h9
              · obtain rfl:j=k:=by omega
                rw [hs2]
                exact fun e'=>e (Option.some.inj e')
          · have hk':k=i:=by omega
            subst hk'
            repeat' ((conv=>whnf);first|refine gT ?_|refine gF ?_|refine VIf.not ?_|refine gA ?_|refine gB ?_|refine VIf.dec (fun h=>?_) (fun h=>?_)|refine gC ?_|refine gD ?_|refine VIf.mk (fun h=>?_) (fun h=>?_)|refine gO ?_|refine gP ?_|refine VNat.mk _ rfl ?_|refine gV ?_|refine vret_pf rfl ?_|refine vret_take rfl rfl ?_|refine VIdx.mk _ (svs_at hs) ?_|refine VOk.mk (szOk_of rfl (.inl rfl)) ?_|refine vres_str ?_|refine gK ?_)
            all_goals (try (conv=>whnf))
            · have e:nm=[]:=by simpa using h
              exact h14 (.inl e)
            · have e:¬ nm=[]:=by simpa using h
              have e2:nm ∉ (NN.take k).reverse:=fun h9=>by
                obtain ⟨j,hj⟩:=List.getElem?_of_mem (List.mem_reverse.1 h9)
                rw [List.getElem?_take] at hj
                split at hj
                · rename_i h8
                  exact hne j h8 hj
                · cases hj
              refine VAgain.sq _ rfl _ (gc_take rfl rfl rfl) rfl _ _ (squeeze_same rfl) ⟨k + 1,⟨hi',?_⟩,by omega,rfl⟩
              rw [hd,apt_next e e2] at hall2
              rw [← hall2,take_snoc' hs,List.reverse_append]
              rfl
        · have hno:¬ i < NN.length:=by omega
          have hap:aptGo [] NN=true:=by rw [← hall2,List.drop_of_length_le (by omega),aptGo]
          obtain ⟨g1,g2,g3⟩:=hok1 (by assumption)
          have hz:frontD d=0:=by
            rw [hfr2,hap,if_neg (by decide)]
            exact if_neg g1
          rw [frontV,hz,if_pos rfl,g3,← g2]
          rfl
        · have hno:¬ i < NN.length:=by omega
          have hap:aptGo [] NN=true:=by rw [← hall2,List.drop_of_length_le (by omega),aptGo]
          exact hret 19 (by rw [hfr2,hap,if_neg (by decide)]; exact if_pos (hok0 (by simpa using h))) (by omega)
      |succ q =>
        simp only [PV.cells,List.cons_append,List.nil_append]
        repeat' ((conv=>whnf);first|refine gT ?_|refine gF ?_|refine VIf.not ?_|refine gA ?_|refine gB ?_|refine VIf.dec (fun h=>?_) (fun h=>?_)|refine gC ?_|refine gD ?_|refine VIf.mk (fun h=>?_) (fun h=>?_)|refine gO ?_|refine gP ?_|refine VNat.mk _ rfl ?_|refine gV ?_|refine vret_pf rfl ?_|refine vret_take rfl rfl ?_|refine vcall_pf hnn rfl rfl ?_|refine finds_pf hnn (fun _=>?_)|refine gK ?_)
        all_goals (try (conv=>whnf))
        · obtain rfl:k1=6:=h
          obtain ⟨a',b',rfl,-,hb'⟩:=allT_two hall1 rfl
          obtain ⟨vb,hvb,hlb⟩:=hys.at (by rfl:[a',b'][1]? = some b')
          obtain ⟨k2,n2,s2,l2,t2,b2',z2,x2,c2,y2,ys2,rfl,rfl,-⟩:=hlb.open
          rw [piF_pi] at hpl
          simp only [depT,depTs] at hdq
          refine VIdx.mk _ hvb (VOk.mk (szOk_of rfl hy) ?_)
          repeat' ((conv=>whnf);first|refine gT ?_|refine gF ?_|refine VIf.not ?_|refine gA ?_|refine gB ?_|refine VIf.dec (fun h=>?_) (fun h=>?_)|refine gC ?_|refine gD ?_|refine VIf.mk (fun h=>?_) (fun h=>?_)|refine gO ?_|refine gP ?_|refine VNat.mk _ rfl ?_|refine gV ?_|refine vret_pf rfl ?_|refine vret_take rfl rfl ?_|refine gK ?_)
          all_goals (try (conv=>whnf))
          exact VAgain.sq _ rfl _ (gc_sh (.cons (sh_box rfl rfl) (.cons (sh_box rfl rfl) (.cons (sh_box rfl rfl) (.cons (sh_box rfl rfl) (.cons (sh_box rfl rfl) (.cons (sh_box rfl rfl) .nil)))))) (.cons (sh_box rfl rfl) (.cons (sh_box rfl rfl) (.cons (sh_box rfl rfl) (.cons (sh_box rfl rfl) (.cons sh_dead (.cons (sh_box rfl rfl) .nil)))))) rfl rfl rfl rfl rfl) rfl _ _ (squeeze_shr (.cons (shr_box rfl rfl) (.cons (shr_box rfl rfl) (.cons (shr_box rfl rfl) (.cons (shr_box rfl rfl) (.cons shr_dead (.cons (shr_box rfl rfl) .nil)))))) rfl rfl rfl rfl) ⟨(.mk k2 n2 s2 l2 t2,.ag [iv k2,iv n2,sv s2,.sl b2' z2 x2,.sl c2 y2 ys2],_ + 1),⟨hlb,⟨_,hb'⟩,by simp only [depT]; omega,by simp only [List.length_cons] at hpl; dsimp only; omega,fun e=>by simp at e⟩,by simp only [sizT,sizTs]; omega,rfl⟩
        all_goals have h6:=hexit (by assumption)
        all_goals try exact hret 15 (by rw [hfr,if_pos (by omega)]) (by omega)
        skip
        have hfr2:frontD d=(if aptGo [] NN=false then 14 else if ((piF d.ty).1.length:Int) < d.fx∨¬ (piF d.ty).2.kind=2 then 19 else 0):=by rw [hfr,if_neg (by omega)]
        refine loop_over (G:=Nat) (fun i=>[(11,iv i)]) (fun _=>_) (fun i=>i ≤ NN.length∧aptGo (NN.take i).reverse (NN.drop i)=aptGo [] NN) (fun i=>NN.length - i) 0 ⟨by omega,rfl⟩ rfl rfl ?_
        rintro i ⟨hi,hall2⟩
        dsimp only at hi hall2 ⊢
        repeat' ((conv=>whnf);first|refine gT ?_|refine gF ?_|refine VIf.not ?_|refine gA ?_|refine gB ?_|refine VIf.dec (fun h=>?_) (fun h=>?_)|refine gC ?_|refine gD ?_|refine VIf.mk (fun h=>?_) (fun h=>?_)|refine gO ?_|refine gP ?_|refine VNat.mk _ rfl ?_|refine gV ?_|refine vret_pf rfl ?_|refine vret_take rfl rfl ?_|refine gK ?_)
        all_goals (try (conv=>whnf))
        · have hi':i < NN.length:=by omega
          obtain ⟨nm,hs⟩:∃ nm,NN[i]? = some nm:=⟨_,List.getElem?_eq_getElem hi'⟩
          have hd:=drop_at hs
          have h14:nm=[]∨nm ∈ (NN.take i).reverse→AEnd.ret [iv 0,.ag [iv 0,iv 0,.sl true 0 []],iv 14] = .ret (frontV d):=fun e=>hret 14 (by rw [hfr2,← hall2,hd,apt_stop e,if_pos rfl]) (by omega)
          refine loop_over (G:=Nat) (fun k=>[(12,iv k)]) (fun _=>_) (fun k=>k ≤ i∧∀ j,j < k→NN[j]? ≠ some nm) (fun k=>i - k) 0 ⟨by omega,fun j hj=>by omega⟩ rfl rfl ?_
          rintro k ⟨hk,hne⟩
          dsimp only at hk hne ⊢
          repeat' ((conv=>whnf);first|refine gT ?_|refine gF ?_|refine VIf.not ?_|refine gA ?_|refine gB ?_|refine VIf.dec (fun h=>?_) (fun h=>?_)|refine gC ?_|refine gD ?_|refine VIf.mk (fun h=>?_) (fun h=>?_)|refine gO ?_|refine gP ?_|refine VNat.mk _ rfl ?_|refine gV ?_|refine vret_pf rfl ?_|refine vret_take rfl rfl ?_|refine gK ?_)
          all_goals (try (conv=>whnf))
          · have hk':k < i:=by omega
            obtain ⟨nm2,hs2⟩:∃ nm2,NN[k]? = some nm2:=⟨_,List.getElem?_eq_getElem (by omega)⟩
            repeat' ((conv=>whnf);first|refine gT ?_|refine gF ?_|refine VIf.not ?_|refine gA ?_|refine gB ?_|refine VIf.dec (fun h=>?_) (fun h=>?_)|refine gC ?_|refine gD ?_|refine VIf.mk (fun h=>?_) (fun h=>?_)|refine gO ?_|refine gP ?_|refine VNat.mk _ rfl ?_|refine gV ?_|refine vret_pf rfl ?_|refine vret_take rfl rfl ?_|refine VIdx.mk _ (svs_at hs2) ?_|refine VIdx.mk _ (svs_at hs) ?_|refine VOk.mk (szOk_of rfl (.inl rfl)) ?_|refine vres_str ?_|refine gK ?_)
            all_goals (try (conv=>whnf))
            · have e:nm2=nm:=by simpa using h
              subst e
              exact h14 (.inr (List.mem_reverse.2 (List.mem_of_getElem? (i:=k) (by rw [List.getElem?_take,if_pos hk']; exact hs2))))
            · have e:¬ nm2=nm:=by simpa using h
              refine VAgain.sq _ rfl _ (gc_take rfl rfl rfl) rfl _ _ (squeeze_same rfl) ⟨k + 1,⟨by omega,fun j hj=>?_⟩,by omega,rfl⟩
              rcases Nat.lt_or_ge j k with h9|h9
              · exact hne j h9
              · obtain rfl:j=k:=by omega
                rw [hs2]
                exact fun e'=>e (Option.some.inj e')
          · have hk':k=i:=by omega
            subst hk'
            repeat' ((conv=>whnf);first|refine gT ?_|refine gF ?_|refine VIf.not ?_|refine gA ?_|refine gB ?_|refine VIf.dec (fun h=>?_) (fun h=>?_)|refine gC ?_|refine gD ?_|refine VIf.mk (fun h=>?_) (fun h=>?_)|refine gO ?_|refine gP ?_|refine VNat.mk _ rfl ?_|refine gV ?_|refine vret_pf rfl ?_|refine vret_take rfl rfl ?_|refine VIdx.mk _ (svs_at hs) ?_|refine VOk.mk (szOk_of rfl (.inl rfl)) ?_|refine vres_str ?_|refine gK ?_)
            all_goals (try (conv=>whnf))
            · have e:nm=[]:=by simpa using h
              exact h14 (.inl e)
            · have e:¬ nm=[]:=by simpa using h
              have e2:nm ∉ (NN.take k).reverse:=fun h9=>by
                obtain ⟨j,hj⟩:=List.getElem?_of_mem (List.mem_reverse.1 h9)
                rw [List.getElem?_take] at hj
                split at hj
                · rename_i h8
                  exact hne j h8 hj
                · cases hj
              refine VAgain.sq _ rfl _ (gc_take rfl rfl rfl) rfl _ _ (squeeze_same rfl) ⟨k + 1,⟨hi',?_⟩,by omega,rfl⟩
              rw [hd,apt_next e e2] at hall2
              rw [← hall2,take_snoc' hs,List.reverse_append]
              rfl
        · have hno:¬ i < NN.length:=by omega
          have hap:aptGo [] NN=true:=by rw [← hall2,List.drop_of_length_le (by omega),aptGo]
          obtain ⟨g1,g2,g3⟩:=hok1 (by assumption)
          have hz:frontD d=0:=by
            rw [hfr2,hap,if_neg (by decide)]
            exact if_neg g1
          rw [frontV,hz,if_pos rfl,g3,← g2]
          rfl
        · have hno:¬ i < NN.length:=by omega
          have hap:aptGo [] NN=true:=by rw [← hall2,List.drop_of_length_le (by omega),aptGo]
          exact hret 19 (by rw [hfr2,hap,if_neg (by decide)]; exact if_pos (hok0 (by simpa using h))) (by omega)
    · exact absurd hF.2 (by assumption)
  · have hf:frontD d=10:=by rw [frontD,if_pos hF]
    rw [frontV,hf,if_neg (by decide)]
    obtain ⟨a1,a2,a3,a4,a5,a6,a7,a8,a9,b1,b2,b3,b4,b5,b6,b7,b8,b9,cb,cz,cx,rfl,hty,hvl,hz,hxs,hlen⟩:=h.parts
    refine run_intro Tryz.func60 rfl rfl rfl ?_
    repeat' ((conv=>whnf);first|refine gT ?_|refine gF ?_|refine VIf.not ?_|refine gA ?_|refine gB ?_|refine VIf.dec (fun h=>?_) (fun h=>?_)|refine gC ?_|refine gD ?_|refine VIf.mk (fun h=>?_) (fun h=>?_)|refine gO ?_|refine gP ?_|refine VNat.mk _ rfl ?_|refine gV ?_|refine vret_pf rfl ?_|refine vret_take rfl rfl ?_|refine vcall_pf hfo rfl rfl ?_|refine finds_pf hfo (fun _=>?_)|refine gK ?_)
    all_goals (try (conv=>whnf))
    all_goals first|rfl|(exfalso; apply hF; simp_all; done)
end Go.Proofs.YtehhihdahalfeaaGreatDoor

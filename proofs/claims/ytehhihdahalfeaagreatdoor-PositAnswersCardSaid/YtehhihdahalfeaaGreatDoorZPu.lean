/-
  Being one, node by node, and counting, as plain functions. No program in sight.
-/
import Derived.Test.YtehhihdahalfeaaGreatDoorZTy
import Derived.Test.YtehhihdahalfeaaGreatDoorZPt
set_option linter.unusedVariables false
set_option linter.unusedSimpArgs false
set_option linter.unnecessarySimpa false
namespace Go.Gw
open Go
mutual
def eqLv:Lv→Lv→Bool
  | .mk k n ls,.mk k' n' ls'=>decide (k=k') && (decide (n=n') && (decide (ls.length=ls'.length) && eqLvs ls ls'))
def eqLvs:List Lv→List Lv→Bool
  |l :: r,m :: s=>eqLv l m && eqLvs r s
  |_,_=>true
end
mutual
theorem eqLv_eq:∀ (l m:Lv),eqLv l m=true↔l=m
  | .mk k n ls,.mk k' n' ls'=>by
    simp only [eqLv,Bool.and_eq_true,decide_eq_true_eq,Lv.mk.injEq]
    constructor
    · rintro ⟨h1,h2,h3,h4⟩
      exact ⟨h1,h2,(eqLvs_eq ls ls' h3).1 h4⟩
    · rintro ⟨rfl,rfl,rfl⟩
      exact ⟨rfl,rfl,rfl,(eqLvs_eq ls ls rfl).2 rfl⟩
theorem eqLvs_eq:∀ (ls ms:List Lv),ls.length=ms.length→(eqLvs ls ms=true↔ls=ms)
  |[],[],_=>by simp [eqLvs]
  |l :: r,m :: s,h=>by
    simp only [eqLvs,Bool.and_eq_true,List.cons.injEq]
    rw [eqLv_eq l m,eqLvs_eq r s (by simpa using h)]
  |[],_ :: _,h=>by simp at h
  |_ :: _,[],h=>by simp at h
end
mutual
def eqTm:Tm→Tm→Bool
  | .mk k n s ls ts,.mk k' n' s' ls' ts'=>decide (k=k') && (decide (n=n') && ((s == s') && (decide (ls.length=ls'.length) && (decide (ts.length=ts'.length) && (eqLvs ls ls' && eqTms ts ts')))))
def eqTms:List Tm→List Tm→Bool
  |l :: r,m :: s=>eqTm l m && eqTms r s
  |_,_=>true
end
mutual
theorem eqTm_eq:∀ (l m:Tm),eqTm l m=true↔l=m
  | .mk k n s ls ts,.mk k' n' s' ls' ts'=>by
    simp only [eqTm,Bool.and_eq_true,decide_eq_true_eq,beq_iff_eq,Tm.mk.injEq]
    constructor
    · rintro ⟨h1,h2,h3,h4,h5,h6,h7⟩
      exact ⟨h1,h2,h3,(eqLvs_eq ls ls' h4).1 h6,(eqTms_eq ts ts' h5).1 h7⟩
    · rintro ⟨rfl,rfl,rfl,rfl,rfl⟩
      exact ⟨rfl,rfl,rfl,rfl,rfl,(eqLvs_eq ls ls rfl).2 rfl,(eqTms_eq ts ts rfl).2 rfl⟩
theorem eqTms_eq:∀ (ls ms:List Tm),ls.length=ms.length→(eqTms ls ms=true↔ls=ms)
  |[],[],_=>by simp [eqTms]
  |l :: r,m :: s,h=>by
    simp only [eqTms,Bool.and_eq_true,List.cons.injEq]
    rw [eqTm_eq l m,eqTms_eq r s (by simpa using h)]
  |[],_ :: _,h=>by simp at h
  |_ :: _,[],h=>by simp at h
end
/- nodes, as the references count them: names count too -/
mutual
def useN:Tm→Int→Int
  | .mk _ _ s ls ts,q=>min (useNs ts (lnFs ls (1 + ((s.length / 16:Nat):Int)) q) q) (q + 1)
def useNs:List Tm→Int→Int→Int
  |[],acc,_=>acc
  |t :: r,acc,q=>if acc ≤ q then useNs r (acc + useN t q) q else acc
end
/- .. and without them -/
mutual
def refN:Tm→Int→Int
  | .mk _ _ _ ls ts,q=>min (refNs ts (lnFs ls 1 q) q) (q + 1)
def refNs:List Tm→Int→Int→Int
  |[],acc,_=>acc
  |t :: r,acc,q=>if acc ≤ q then refNs r (acc + refN t q) q else acc
end
end Go.Gw
namespace Go.Proofs.YtehhihdahalfeaaGreatDoor
open Go Go.Am Go.Gw
set_option maxRecDepth 100000 in
theorem SameLevel_can (l:Lv):∀ v,LvP l v→∀ m w,LvP m w→Pf C1 45 [v,w] [bv (eqLv l m)]:=by
  induction l using Lv.ind with
  |_ k nn ls ih =>
  intro v h m w hm
  obtain ⟨_,_,_,b,z,xs,⟨rfl,rfl,rfl⟩,rfl,hz,hxs,hlen,hbd⟩:=h.open
  obtain ⟨k',nn',ls',b',z',xs',rfl,rfl,hz',hxs',hlen',hbd'⟩:=hm.open
  refine run_intro Tryz.func45 rfl rfl rfl ?_
  repeat' ((conv=>whnf);first|refine gT ?_|refine gF ?_|refine VIf.not ?_|refine gA ?_|refine gB ?_|refine VIf.dec (fun h=>?_) (fun h=>?_)|refine gC ?_|refine gD ?_|refine VIf.mk (fun h=>?_) (fun h=>?_)|refine gO ?_|refine gP ?_|refine VNat.mk _ rfl ?_|refine gV ?_|refine vret_pf rfl ?_|refine vret_take rfl rfl ?_|refine gK ?_)
  all_goals (try (conv=>whnf))
  · have hl2:ls.length=ls'.length:=by omega
    have he0:eqLv (.mk k nn ls) (.mk k' nn' ls')=eqLvs ls ls':=by simp_all [eqLv]
    refine loop_over (G:=Nat) (fun i=>[(5,iv i)]) (fun _=>_) (fun i=>i ≤ ls.length∧eqLvs (ls.drop i) (ls'.drop i)=eqLvs ls ls') (fun i=>ls.length - i) 0 ⟨by omega,rfl⟩ rfl rfl ?_
    rintro i ⟨hi,hall⟩
    repeat' ((conv=>whnf);first|refine gT ?_|refine gF ?_|refine VIf.not ?_|refine gA ?_|refine gB ?_|refine VIf.dec (fun h=>?_) (fun h=>?_)|refine gC ?_|refine gD ?_|refine VIf.mk (fun h=>?_) (fun h=>?_)|refine gO ?_|refine gP ?_|refine VNat.mk _ rfl ?_|refine gV ?_|refine vret_pf rfl ?_|refine vret_take rfl rfl ?_|refine gK ?_)
    all_goals (try (conv=>whnf))
    · have hi':i < ls.length:=by omega
      obtain ⟨lc,hlc⟩:∃ lc,ls[i]? = some lc:=⟨_,List.getElem?_eq_getElem hi'⟩
      obtain ⟨mc,hmc⟩:∃ mc,ls'[i]? = some mc:=⟨_,List.getElem?_eq_getElem (by omega)⟩
      obtain ⟨v,hv,hl⟩:=hxs.at hlc
      obtain ⟨w,hw,hl'⟩:=hxs'.at hmc
      have hrec:=ih _ (List.mem_of_getElem? hlc) _ hl _ _ hl'
      obtain ⟨k1,n1,l1,b1,z1,x1,rfl,rfl,hz1,hxs1,hlen1,hbd1⟩:=hl.open
      obtain ⟨k2,n2,l2,b2,z2,x2,rfl,rfl,hz2,hxs2,hlen2,hbd2⟩:=hl'.open
      rw [drop_at hlc,drop_at hmc] at hall
      simp only [eqLvs] at hall
      refine VIdx.mk _ hv (VOk.mk (szOk_of rfl hz) ?_)
      repeat' ((conv=>whnf);first|refine gT ?_|refine gF ?_|refine VIf.not ?_|refine gA ?_|refine gB ?_|refine VIf.dec (fun h=>?_) (fun h=>?_)|refine gC ?_|refine gD ?_|refine VIf.mk (fun h=>?_) (fun h=>?_)|refine gO ?_|refine gP ?_|refine VNat.mk _ rfl ?_|refine gV ?_|refine vret_pf rfl ?_|refine vret_take rfl rfl ?_|refine VIdx.mk _ hw ?_|refine VOk.mk (szOk_of rfl hz') ?_|refine finds_pf hrec (fun _=>?_)|refine gK ?_)
      all_goals (try (conv=>whnf))
      · refine VAgain.mk _ rfl _ (gc_take rfl rfl rfl) ⟨i + 1,⟨hi',?_⟩,by omega,rfl⟩
        rw [← hall,h]
        simp
      · rw [he0,← hall,h]
        rfl
    · have:i=ls.length:=by omega
      subst this
      rw [List.drop_length] at hall
      rw [he0,← hall]
      rfl
  all_goals simp_all [eqLv]
  all_goals omega
set_option maxRecDepth 100000 in
theorem SameTerm_can (t:Tm):∀ v,TmP t v→∀ m w,TmP m w→Pf C1 13 [v,w] [bv (eqTm t m)]:=by
  induction t using Tm.ind with
  |_ k nn s ls ts ih =>
  intro v h m w hm
  obtain ⟨_,_,_,_,_,b,z,xs,c,y,ys,⟨rfl,rfl,rfl,rfl,rfl⟩,rfl,hz,hxs,hlen,hbd,hy,hys,hlen2,hbd2,hsl⟩:=h.open
  obtain ⟨k',nn',s',ls',ts',b',z',xs',c',y',ys',rfl,rfl,hz',hxs',hlen',hbd',hy',hys',hlen2',hbd2',hsl'⟩:=hm.open
  refine run_intro Tryz.func13 rfl rfl rfl ?_
  repeat' ((conv=>whnf);first|refine gT ?_|refine gF ?_|refine VIf.not ?_|refine gA ?_|refine gB ?_|refine VIf.dec (fun h=>?_) (fun h=>?_)|refine gC ?_|refine gD ?_|refine VIf.mk (fun h=>?_) (fun h=>?_)|refine gO ?_|refine gP ?_|refine VNat.mk _ rfl ?_|refine gV ?_|refine vret_pf rfl ?_|refine vret_take rfl rfl ?_|refine vres_str ?_|refine gK ?_)
  all_goals (try (conv=>whnf))
  · have hl2:ls.length=ls'.length:=by omega
    have ht2:ts.length=ts'.length:=by omega
    have he0:eqTm (.mk k nn s ls ts) (.mk k' nn' s' ls' ts')=(eqLvs ls ls' && eqTms ts ts'):=by simp_all [eqTm]
    refine loop_over (G:=Nat) (fun i=>[(5,iv i)]) (fun _=>_) (fun i=>i ≤ ls.length∧eqLvs (ls.drop i) (ls'.drop i)=eqLvs ls ls') (fun i=>ls.length - i) 0 ⟨by omega,rfl⟩ rfl rfl ?_
    rintro i ⟨hi,hall⟩
    repeat' ((conv=>whnf);first|refine gT ?_|refine gF ?_|refine VIf.not ?_|refine gA ?_|refine gB ?_|refine VIf.dec (fun h=>?_) (fun h=>?_)|refine gC ?_|refine gD ?_|refine VIf.mk (fun h=>?_) (fun h=>?_)|refine gO ?_|refine gP ?_|refine VNat.mk _ rfl ?_|refine gV ?_|refine vret_pf rfl ?_|refine vret_take rfl rfl ?_|refine gK ?_)
    all_goals (try (conv=>whnf))
    · have hi':i < ls.length:=by omega
      obtain ⟨lc,hlc⟩:∃ lc,ls[i]? = some lc:=⟨_,List.getElem?_eq_getElem hi'⟩
      obtain ⟨mc,hmc⟩:∃ mc,ls'[i]? = some mc:=⟨_,List.getElem?_eq_getElem (by omega)⟩
      obtain ⟨v,hv,hl⟩:=hxs.at hlc
      obtain ⟨w,hw,hl'⟩:=hxs'.at hmc
      have hrec:=SameLevel_can _ _ hl _ _ hl'
      obtain ⟨k1,n1,l1,b1,z1,x1,rfl,rfl,hz1,hxs1,hlen1,hbd1⟩:=hl.open
      obtain ⟨k2,n2,l2,b2,z2,x2,rfl,rfl,hz2,hxs2,hlen2,hbd2⟩:=hl'.open
      rw [drop_at hlc,drop_at hmc] at hall
      simp only [eqLvs] at hall
      refine VIdx.mk _ hv (VOk.mk (szOk_of rfl hz) ?_)
      repeat' ((conv=>whnf);first|refine gT ?_|refine gF ?_|refine VIf.not ?_|refine gA ?_|refine gB ?_|refine VIf.dec (fun h=>?_) (fun h=>?_)|refine gC ?_|refine gD ?_|refine VIf.mk (fun h=>?_) (fun h=>?_)|refine gO ?_|refine gP ?_|refine VNat.mk _ rfl ?_|refine gV ?_|refine vret_pf rfl ?_|refine vret_take rfl rfl ?_|refine VIdx.mk _ hw ?_|refine VOk.mk (szOk_of rfl hz') ?_|refine finds_pf hrec (fun _=>?_)|refine gK ?_)
      all_goals (try (conv=>whnf))
      · refine VAgain.mk _ rfl _ (gc_take rfl rfl rfl) ⟨i + 1,⟨hi',?_⟩,by omega,rfl⟩
        rw [← hall,h]
        simp
      · rw [he0,← hall,h]
        rfl
    · have hls:eqLvs ls ls'=true:=by
        have:i=ls.length:=by omega
        subst this
        rw [← hall,List.drop_length]
        rfl
      refine loop_over (G:=Nat) (fun i=>[(6,iv i)]) (fun _=>_) (fun i=>i ≤ ts.length∧eqTms (ts.drop i) (ts'.drop i)=eqTms ts ts') (fun i=>ts.length - i) 0 ⟨by omega,rfl⟩ rfl rfl ?_
      rintro j ⟨hj,hallj⟩
      repeat' ((conv=>whnf);first|refine gT ?_|refine gF ?_|refine VIf.not ?_|refine gA ?_|refine gB ?_|refine VIf.dec (fun h=>?_) (fun h=>?_)|refine gC ?_|refine gD ?_|refine VIf.mk (fun h=>?_) (fun h=>?_)|refine gO ?_|refine gP ?_|refine VNat.mk _ rfl ?_|refine gV ?_|refine vret_pf rfl ?_|refine vret_take rfl rfl ?_|refine gK ?_)
      all_goals (try (conv=>whnf))
      · have hj':j < ts.length:=by omega
        obtain ⟨tc,htc⟩:∃ tc,ts[j]? = some tc:=⟨_,List.getElem?_eq_getElem hj'⟩
        obtain ⟨mc,hmc⟩:∃ mc,ts'[j]? = some mc:=⟨_,List.getElem?_eq_getElem (by omega)⟩
        obtain ⟨v,hv,hl⟩:=hys.at htc
        obtain ⟨w,hw,hl'⟩:=hys'.at hmc
        have hrec:=ih _ (List.mem_of_getElem? htc) _ hl _ _ hl'
        obtain ⟨k1,n1,s1,l1,t1,b1,z1,x1,c1,y1,ys1,rfl,rfl,hz1,hxs1,hlen1,hbd1,hy1,hys1,hlen21,hbd21,hsl1⟩:=hl.open
        obtain ⟨k3,n3,s3,l3,t3,b3,z3,x3,c3,y3,ys3,rfl,rfl,hz3,hxs3,hlen3,hbd3,hy3,hys3,hlen23,hbd23,hsl3⟩:=hl'.open
        rw [drop_at htc,drop_at hmc] at hallj
        simp only [eqTms] at hallj
        refine VIdx.mk _ hv (VOk.mk (szOk_of rfl hy) ?_)
        repeat' ((conv=>whnf);first|refine gT ?_|refine gF ?_|refine VIf.not ?_|refine gA ?_|refine gB ?_|refine VIf.dec (fun h=>?_) (fun h=>?_)|refine gC ?_|refine gD ?_|refine VIf.mk (fun h=>?_) (fun h=>?_)|refine gO ?_|refine gP ?_|refine VNat.mk _ rfl ?_|refine gV ?_|refine vret_pf rfl ?_|refine vret_take rfl rfl ?_|refine VIdx.mk _ hw ?_|refine VOk.mk (szOk_of rfl hy') ?_|refine finds_pf hrec (fun _=>?_)|refine gK ?_)
        all_goals (try (conv=>whnf))
        · refine VAgain.mk _ rfl _ (gc_take rfl rfl rfl) ⟨j + 1,⟨hj',?_⟩,by omega,rfl⟩
          rw [← hallj,h]
          simp
        · rw [he0,hls,← hallj,h]
          rfl
      · have:j=ts.length:=by omega
        subst this
        rw [List.drop_length] at hallj
        rw [he0,hls,← hallj]
        rfl
  all_goals simp_all [eqTm]
  all_goals omega
end Go.Proofs.YtehhihdahalfeaaGreatDoor

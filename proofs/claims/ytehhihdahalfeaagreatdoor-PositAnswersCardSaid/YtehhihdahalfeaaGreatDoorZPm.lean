/-
  What package term finds. No statement of the seat.
-/
import Derived.Test.YtehhihdahalfeaaGreatDoorZPl
set_option linter.unusedVariables false
set_option linter.unusedSimpArgs false
set_option linter.unnecessarySimpa false
namespace Go.Proofs.YtehhihdahalfeaaGreatDoor
open Go Go.Am Go.Gw
/- the names that stand in a term -/
mutual
def NmT (NM:List UInt8→Prop):Tm→Prop
  | .mk _ _ s _ ts=>NM s∧NmTs NM ts
def NmTs (NM:List UInt8→Prop):List Tm→Prop
  |[]=>True
  |t :: r=>NmT NM t∧NmTs NM r
end
theorem NmTs.mem {NM:List UInt8→Prop}:∀ {ts:List Tm},NmTs NM ts→∀ t ∈ ts,NmT NM t
  |[],_,t,h=>by cases h
  |a :: r,h,t,ht=>by
    simp only [NmTs] at h
    rcases List.mem_cons.1 ht with rfl|ht
    · exact h.1
    · exact NmTs.mem h.2 t ht
def NmOk (NM:List UInt8→Prop):Prop:=∀ s,NM s→Pf C1 125 [sv s] [bv (nameF s)]
set_option maxRecDepth 100000 in
theorem under_can (l:Lv):∀ v,LvP l v→∀ (left:Int),0 ≤ left→left ≤ 1000000→Finds C1 185 [v,.bp 0 0] [.box 3 [iv left]] fun r st=>r = .ret []∧st=[.box 3 [iv (countF l left)]]:=by
  induction l using Lv.ind with
  |_ k nn ls ih =>
  intro v h left h0 h1
  obtain ⟨_,_,_,b,z,xs,⟨rfl,rfl,rfl⟩,rfl,hz,hxs,hlen,hbd⟩:=h.open
  refine run_intro Tryz.func185 rfl rfl rfl ?_
  repeat' ((conv=>whnf);first|refine gT ?_|refine gF ?_|refine VIf.not ?_|refine gA ?_|refine gB ?_|refine VIf.dec (fun h=>?_) (fun h=>?_)|refine gC ?_|refine gD ?_|refine VIf.mk (fun h=>?_) (fun h=>?_)|refine gO ?_|refine gP ?_|refine VNat.mk _ rfl ?_|refine gV ?_|refine vret_pf rfl ?_|refine vret_take rfl rfl ?_|refine gK ?_)
  all_goals (try (conv=>whnf))
  refine loop_over (G:=Nat × Int) (fun g=>[(14,iv g.1)]) (fun g=>[.box 3 [iv g.2],_]) (fun g=>g.1 ≤ ls.length∧-1 ≤ g.2∧g.2 ≤ 1000000∧countFs (ls.drop g.1) g.2=countFs ls (left - 1)) (fun g=>ls.length - g.1) (0,left - 1) ⟨by omega,by dsimp only; omega,by dsimp only; omega,rfl⟩ rfl rfl ?_
  rintro ⟨i,lf⟩ ⟨hi,hlf0,hlf1,hall⟩
  dsimp only at hi hlf0 hlf1 hall ⊢
  repeat' ((conv=>whnf);first|refine gT ?_|refine gF ?_|refine VIf.not ?_|refine gA ?_|refine gB ?_|refine VIf.dec (fun h=>?_) (fun h=>?_)|refine gC ?_|refine gD ?_|refine VIf.mk (fun h=>?_) (fun h=>?_)|refine gO ?_|refine gP ?_|refine VNat.mk _ rfl ?_|refine gV ?_|refine vret_pf rfl ?_|refine vret_take rfl rfl ?_|refine gK ?_)
  all_goals (try (conv=>whnf))
  · have hi':i < ls.length:=by omega
    obtain ⟨lc,hlc⟩:∃ lc,ls[i]? = some lc:=⟨_,List.getElem?_eq_getElem hi'⟩
    obtain ⟨v,hv,hl⟩:=hxs.at hlc
    obtain ⟨k1,n1,l1,b1,z1,x1,rfl,rfl,hz1,hxs1,hlen1,hbd1⟩:=hl.open
    refine VIdx.mk _ hv (VOk.mk (szOk_of rfl hz) ?_)
    repeat' ((conv=>whnf);first|refine gT ?_|refine gF ?_|refine VIf.not ?_|refine gA ?_|refine gB ?_|refine VIf.dec (fun h=>?_) (fun h=>?_)|refine gC ?_|refine gD ?_|refine VIf.mk (fun h=>?_) (fun h=>?_)|refine gO ?_|refine gP ?_|refine VNat.mk _ rfl ?_|refine gV ?_|refine vret_pf rfl ?_|refine vret_take rfl rfl ?_|refine gK ?_)
    all_goals (try (conv=>whnf))
    · have:countF (.mk k nn ls) left=lf:=by rw [countF,← hall,countFs_neg _ _ (by omega)]
      exact ⟨rfl,by rw [this]; rfl⟩
    · refine vcall_st rfl rfl rfl rfl rfl rfl (Finds.mono (ih _ (List.mem_of_getElem? hlc) _ hl lf (by omega) (by omega)) ?_)
      rintro _ _ ⟨rfl,rfl⟩
      refine vback rfl ?_
      repeat' ((conv=>whnf);first|refine gT ?_|refine gF ?_|refine VIf.not ?_|refine gA ?_|refine gB ?_|refine VIf.dec (fun h=>?_) (fun h=>?_)|refine gC ?_|refine gD ?_|refine VIf.mk (fun h=>?_) (fun h=>?_)|refine gO ?_|refine gP ?_|refine VNat.mk _ rfl ?_|refine gV ?_|refine vret_pf rfl ?_|refine vret_take rfl rfl ?_|refine gK ?_)
      all_goals (try (conv=>whnf))
      have hcg:=countF_ge (.mk k1 n1 l1) lf (by omega)
      refine VAgain.mk _ rfl _ (gc_take rfl rfl rfl) ⟨(i + 1,countF (.mk k1 n1 l1) lf),⟨hi',by dsimp only; omega,by dsimp only; omega,?_⟩,by dsimp only; omega,rfl⟩
      rw [← hall,drop_at hlc,countFs,if_neg (by omega)]
  · have:countF (.mk k nn ls) left=lf:=by
      obtain rfl:i=ls.length:=by omega
      rw [List.drop_length,countFs] at hall
      rw [countF,← hall]
    exact ⟨rfl,by rw [this]; rfl⟩
set_option maxRecDepth 100000 in
theorem countT_can (t:Tm):∀ v,TmP t v→∀ (left:Int),0 ≤ left→left ≤ 1000000→Finds C1 148 [v,.bp 0 0] [.box 3 [iv left]] fun r st=>r = .ret []∧st=[.box 3 [iv (cntT t left)]]:=by
  induction t using Tm.ind with
  |_ k nn s ls ts ih =>
  intro v h left h0 h1
  obtain ⟨_,_,_,_,_,b,z,xs,c,y,ys,⟨rfl,rfl,rfl,rfl,rfl⟩,rfl,hz,hxs,hlen,hbd,hy,hys,hlen2,hbd2,hsl⟩:=h.open
  refine run_intro Tryz.func148 rfl rfl rfl ?_
  repeat' ((conv=>whnf);first|refine gT ?_|refine gF ?_|refine VIf.not ?_|refine gA ?_|refine gB ?_|refine VIf.dec (fun h=>?_) (fun h=>?_)|refine gC ?_|refine gD ?_|refine VIf.mk (fun h=>?_) (fun h=>?_)|refine gO ?_|refine gP ?_|refine VNat.mk _ rfl ?_|refine gV ?_|refine vret_pf rfl ?_|refine vret_take rfl rfl ?_|refine gK ?_)
  all_goals (try (conv=>whnf))
  refine loop_over (G:=Nat × Int) (fun g=>[(16,iv g.1)]) (fun g=>[.box 3 [iv g.2],_]) (fun g=>g.1 ≤ ls.length∧-1 ≤ g.2∧g.2 ≤ 1000000∧countFs (ls.drop g.1) g.2=countFs ls (left - 1)) (fun g=>ls.length - g.1) (0,left - 1) ⟨by omega,by dsimp only; omega,by dsimp only; omega,rfl⟩ rfl rfl ?_
  rintro ⟨i,lf⟩ ⟨hi,hlf0,hlf1,hall⟩
  dsimp only at hi hlf0 hlf1 hall ⊢
  repeat' ((conv=>whnf);first|refine gT ?_|refine gF ?_|refine VIf.not ?_|refine gA ?_|refine gB ?_|refine VIf.dec (fun h=>?_) (fun h=>?_)|refine gC ?_|refine gD ?_|refine VIf.mk (fun h=>?_) (fun h=>?_)|refine gO ?_|refine gP ?_|refine VNat.mk _ rfl ?_|refine gV ?_|refine vret_pf rfl ?_|refine vret_take rfl rfl ?_|refine gK ?_)
  all_goals (try (conv=>whnf))
  · have hi':i < ls.length:=by omega
    obtain ⟨lc,hlc⟩:∃ lc,ls[i]? = some lc:=⟨_,List.getElem?_eq_getElem hi'⟩
    obtain ⟨v,hv,hl⟩:=hxs.at hlc
    have hu:=under_can lc _ hl
    obtain ⟨k1,n1,l1,b1,z1,x1,rfl,rfl,hz1,hxs1,hlen1,hbd1⟩:=hl.open
    refine VIdx.mk _ hv (VOk.mk (szOk_of rfl hz) ?_)
    repeat' ((conv=>whnf);first|refine gT ?_|refine gF ?_|refine VIf.not ?_|refine gA ?_|refine gB ?_|refine VIf.dec (fun h=>?_) (fun h=>?_)|refine gC ?_|refine gD ?_|refine VIf.mk (fun h=>?_) (fun h=>?_)|refine gO ?_|refine gP ?_|refine VNat.mk _ rfl ?_|refine gV ?_|refine vret_pf rfl ?_|refine vret_take rfl rfl ?_|refine gK ?_)
    all_goals (try (conv=>whnf))
    · have:cntT (.mk k nn s ls ts) left=lf:=by rw [cntT,← hall,countFs_neg _ _ (by omega),cntTs_neg _ _ (by omega)]
      exact ⟨rfl,by rw [this]; rfl⟩
    · refine vcall_st rfl rfl rfl rfl rfl rfl (Finds.mono (hu lf (by omega) (by omega)) ?_)
      rintro _ _ ⟨rfl,rfl⟩
      refine vback rfl ?_
      repeat' ((conv=>whnf);first|refine gT ?_|refine gF ?_|refine VIf.not ?_|refine gA ?_|refine gB ?_|refine VIf.dec (fun h=>?_) (fun h=>?_)|refine gC ?_|refine gD ?_|refine VIf.mk (fun h=>?_) (fun h=>?_)|refine gO ?_|refine gP ?_|refine VNat.mk _ rfl ?_|refine gV ?_|refine vret_pf rfl ?_|refine vret_take rfl rfl ?_|refine gK ?_)
      all_goals (try (conv=>whnf))
      have hcg:=countF_ge (.mk k1 n1 l1) lf (by omega)
      refine VAgain.mk _ rfl _ (gc_take rfl rfl rfl) ⟨(i + 1,countF (.mk k1 n1 l1) lf),⟨hi',by dsimp only; omega,by dsimp only; omega,?_⟩,by dsimp only; omega,rfl⟩
      rw [← hall,drop_at hlc,countFs,if_neg (by omega)]
  · have hlf:countFs ls (left - 1)=lf:=by
      obtain rfl:i=ls.length:=by omega
      rw [List.drop_length,countFs] at hall
      exact hall.symm
    refine loop_over (G:=Nat × Int) (fun g=>[(31,iv g.1)]) (fun g=>[.box 3 [iv g.2],_]) (fun g=>g.1 ≤ ts.length∧-1 ≤ g.2∧g.2 ≤ 1000000∧cntTs (ts.drop g.1) g.2=cntTs ts lf) (fun g=>ts.length - g.1) (0,lf) ⟨by omega,by dsimp only; omega,by dsimp only; omega,rfl⟩ rfl rfl ?_
    rintro ⟨j,lg⟩ ⟨hj,hlg0,hlg1,hallg⟩
    dsimp only at hj hlg0 hlg1 hallg ⊢
    repeat' ((conv=>whnf);first|refine gT ?_|refine gF ?_|refine VIf.not ?_|refine gA ?_|refine gB ?_|refine VIf.dec (fun h=>?_) (fun h=>?_)|refine gC ?_|refine gD ?_|refine VIf.mk (fun h=>?_) (fun h=>?_)|refine gO ?_|refine gP ?_|refine VNat.mk _ rfl ?_|refine gV ?_|refine vret_pf rfl ?_|refine vret_take rfl rfl ?_|refine gK ?_)
    all_goals (try (conv=>whnf))
    · have hj':j < ts.length:=by omega
      obtain ⟨tc,htc⟩:∃ tc,ts[j]? = some tc:=⟨_,List.getElem?_eq_getElem hj'⟩
      obtain ⟨v,hv,hl⟩:=hys.at htc
      obtain ⟨k1,n1,s1,l1,t1,b1,z1,x1,c1,y1,ys1,rfl,rfl,hz1,hxs1,hlen1,hbd1,hy1,hys1,hlen21,hbd21,hsl1⟩:=hl.open
      refine VIdx.mk _ hv (VOk.mk (szOk_of rfl hy) ?_)
      repeat' ((conv=>whnf);first|refine gT ?_|refine gF ?_|refine VIf.not ?_|refine gA ?_|refine gB ?_|refine VIf.dec (fun h=>?_) (fun h=>?_)|refine gC ?_|refine gD ?_|refine VIf.mk (fun h=>?_) (fun h=>?_)|refine gO ?_|refine gP ?_|refine VNat.mk _ rfl ?_|refine gV ?_|refine vret_pf rfl ?_|refine vret_take rfl rfl ?_|refine gK ?_)
      all_goals (try (conv=>whnf))
      · have:cntT (.mk k nn s ls ts) left=lg:=by rw [cntT,hlf,← hallg,cntTs_neg _ _ (by omega)]
        exact ⟨rfl,by rw [this]; rfl⟩
      · refine vcall_st rfl rfl rfl rfl rfl rfl (Finds.mono (ih _ (List.mem_of_getElem? htc) _ hl lg (by omega) (by omega)) ?_)
        rintro _ _ ⟨rfl,rfl⟩
        refine vback rfl ?_
        repeat' ((conv=>whnf);first|refine gT ?_|refine gF ?_|refine VIf.not ?_|refine gA ?_|refine gB ?_|refine VIf.dec (fun h=>?_) (fun h=>?_)|refine gC ?_|refine gD ?_|refine VIf.mk (fun h=>?_) (fun h=>?_)|refine gO ?_|refine gP ?_|refine VNat.mk _ rfl ?_|refine gV ?_|refine vret_pf rfl ?_|refine vret_take rfl rfl ?_|refine gK ?_)
        all_goals (try (conv=>whnf))
        have hcg:=cntT_ge (.mk k1 n1 s1 l1 t1) lg (by omega)
        refine VAgain.mk _ rfl _ (gc_take rfl rfl rfl) ⟨(j + 1,cntT (.mk k1 n1 s1 l1 t1) lg),⟨hj',by dsimp only; omega,by dsimp only; omega,?_⟩,by dsimp only; omega,rfl⟩
        rw [← hallg,drop_at htc,cntTs,if_neg (by omega)]
    · have:cntT (.mk k nn s ls ts) left=lg:=by
        obtain rfl:j=ts.length:=by omega
        rw [List.drop_length,cntTs] at hallg
        rw [cntT,hlf,← hallg]
      exact ⟨rfl,by rw [this]; rfl⟩
set_option maxRecDepth 100000 in
theorem nodesT_can (t:Tm) (v:PV) (h:TmP t v):Pf C1 106 [v] [iv (nodesT t)]:=by
  have h0:=h
  obtain ⟨k,nn,s,ls,ts,b,z,xs,c,y,ys,rfl,rfl,hz,hxs,hlen,hbd,hy,hys,hlen2,hbd2,hsl⟩:=h.open
  have hcg:=cntT_ge (.mk k nn s ls ts) 2000 (by omega)
  refine run_intro Tryz.func106 rfl rfl rfl ?_
  repeat' ((conv=>whnf);first|refine gT ?_|refine gF ?_|refine VIf.not ?_|refine gA ?_|refine gB ?_|refine VIf.dec (fun h=>?_) (fun h=>?_)|refine gC ?_|refine gD ?_|refine VIf.mk (fun h=>?_) (fun h=>?_)|refine gO ?_|refine gP ?_|refine VNat.mk _ rfl ?_|refine gV ?_|refine vret_pf rfl ?_|refine vret_take rfl rfl ?_|refine gK ?_)
  all_goals (try (conv=>whnf))
  refine vcall_st rfl rfl rfl rfl rfl rfl (Finds.mono (countT_can _ _ h0 2000 (by omega) (by omega)) ?_)
  rintro _ _ ⟨rfl,rfl⟩
  refine vback rfl ?_
  repeat' ((conv=>whnf);first|refine gT ?_|refine gF ?_|refine VIf.not ?_|refine gA ?_|refine gB ?_|refine VIf.dec (fun h=>?_) (fun h=>?_)|refine gC ?_|refine gD ?_|refine VIf.mk (fun h=>?_) (fun h=>?_)|refine gO ?_|refine gP ?_|refine VNat.mk _ rfl ?_|refine gV ?_|refine vret_pf rfl ?_|refine vret_take rfl rfl ?_|refine gK ?_)
  all_goals (try (conv=>whnf))
  all_goals simp only [nodesT,max_def']
  all_goals simp_all
  all_goals omega
def shapeP (a l b:Int):PV:=.ag [iv a,iv l,iv b]
def shapesP:List PV:=[shapeP 0 0 0,shapeP 0 0 (-1),shapeP 0 1 (-1),shapeP 0 0 (-1),shapeP 2 0 (-1),shapeP 2 0 1,shapeP 2 0 1,shapeP 3 0 2]
set_option maxRecDepth 100000 in
theorem shapes_can:∃ b,Pf C1 186 [] [.sl b 3 shapesP]:=by
  first
    |exact ⟨true,pf_of (st':=[]) 3 (by kernel_rfl)⟩
    |exact ⟨false,pf_of (st':=[]) 3 (by kernel_rfl)⟩
set_option maxRecDepth 100000 in
theorem shaped_can (k:Int):Pf C1 149 [iv k] [shapeP (shArgs k) (shLevels k) (if 1 ≤ k∧k ≤ 7 then shBinds k else 0),bv (decide (1 ≤ k) && decide (k ≤ 7))]:=by
  obtain ⟨b,hs⟩:=shapes_can
  refine run_intro Tryz.func149 rfl rfl rfl ?_
  repeat' ((conv=>whnf);first|refine gT ?_|refine gF ?_|refine VIf.not ?_|refine gA ?_|refine gB ?_|refine VIf.dec (fun h=>?_) (fun h=>?_)|refine gC ?_|refine gD ?_|refine VIf.mk (fun h=>?_) (fun h=>?_)|refine gO ?_|refine gP ?_|refine VNat.mk _ rfl ?_|refine gV ?_|refine vret_pf rfl ?_|refine vret_take rfl rfl ?_|refine vcall_pf hs rfl rfl ?_|refine gK ?_)
  all_goals (try (conv=>whnf))
  · have:¬ (1 ≤ k∧k ≤ 7):=by omega
    rw [shArgs,if_neg (by omega),if_neg (by omega),shLevels,if_neg (by omega),if_neg this]
    simp
    exact ⟨rfl,by omega⟩
  · have:¬ (1 ≤ k∧k ≤ 7):=by omega
    rw [shArgs,if_neg (by omega),if_neg (by omega),shLevels,if_neg (by omega),if_neg this]
    simp
    exact ⟨rfl,by omega⟩
  · obtain rfl|rfl|rfl|rfl|rfl|rfl|rfl:k=1∨k=2∨k=3∨k=4∨k=5∨k=6∨k=7:=by omega
    all_goals
      repeat' ((conv=>whnf);first|refine gT ?_|refine gF ?_|refine VIf.not ?_|refine gA ?_|refine gB ?_|refine VIf.dec (fun h=>?_) (fun h=>?_)|refine gC ?_|refine gD ?_|refine VIf.mk (fun h=>?_) (fun h=>?_)|refine gO ?_|refine gP ?_|refine VNat.mk _ rfl ?_|refine gV ?_|refine vret_pf rfl ?_|refine vret_take rfl rfl ?_|refine VIdx.mk _ rfl ?_|refine gK ?_)
      all_goals (try (conv=>whnf))
      rfl
set_option maxRecDepth 100000 in
theorem inner_can (a l b i d:Int) (hd:d ≤ 4611686018427387904) (hd0:0 ≤ d):Pf C1 151 [shapeP a l b,iv i,iv d] [iv (innerF b i d)]:=by
  refine run_intro Tryz.func151 rfl rfl rfl ?_
  repeat' ((conv=>whnf);first|refine gT ?_|refine gF ?_|refine VIf.not ?_|refine gA ?_|refine gB ?_|refine VIf.dec (fun h=>?_) (fun h=>?_)|refine gC ?_|refine gD ?_|refine VIf.mk (fun h=>?_) (fun h=>?_)|refine gO ?_|refine gP ?_|refine VNat.mk _ rfl ?_|refine gV ?_|refine vret_pf rfl ?_|refine vret_take rfl rfl ?_|refine gK ?_)
  all_goals (try (conv=>whnf))
  all_goals simp_all [innerF]
set_option maxRecDepth 100000 in
theorem nodeT_can (t:Tm) (v:PV) (h:TmP t v) (a b kk:Int) (hnm:Pf C1 125 [sv t.name] [bv (nameF t.name)]):Pf C1 150 [v,shapeP a (shLevels t.kind) b,iv kk] [bv (nodeT t kk)]:=by
  obtain ⟨k,n,s,ls,ts,b,z,xs,c,y,ys,rfl,rfl,hz,hxs,hlen,hbd,hy,hys,hlen2,hbd2,hsl⟩:=h.open
  simp only [Tm.name,Tm.kind] at hnm ⊢
  refine run_intro Tryz.func150 rfl rfl rfl ?_
  repeat' ((conv=>whnf);first|refine gT ?_|refine gF ?_|refine VIf.not ?_|refine gA ?_|refine gB ?_|refine VIf.dec (fun h=>?_) (fun h=>?_)|refine gC ?_|refine gD ?_|refine VIf.mk (fun h=>?_) (fun h=>?_)|refine gO ?_|refine gP ?_|refine VNat.mk _ rfl ?_|refine gV ?_|refine vret_pf rfl ?_|refine vret_take rfl rfl ?_|refine vcall_pf hnm rfl rfl ?_|refine VRes.mk _ seql ?_|refine gK ?_)
  all_goals (try (conv=>whnf))
  all_goals simp_all [nodeT]
  all_goals first|done|omega|(intros; omega)
set_option maxRecDepth 100000 in
theorem allT_can {NM:List UInt8→Prop} (hNM:NmOk NM) (t:Tm):∀ v,TmP t v→NmT NM t→∀ n kk:Int,0 ≤ kk→kk + depT t ≤ 2251799813685248→Pf C1 107 [v,iv n,iv kk] [bv (allT t n kk)]:=by
  induction t using Tm.ind with
  |_ k nn s ls ts ih =>
  intro v h hnt n kk hk0 hk1
  simp only [NmT] at hnt
  have hnode:=fun a b=>nodeT_can _ v h a b kk (hNM s hnt.1)
  have hsh:=shaped_can k
  obtain ⟨_,_,_,_,_,b,z,xs,c,y,ys,⟨rfl,rfl,rfl,rfl,rfl⟩,rfl,hz,hxs,hlen,hbd,hy,hys,hlen2,hbd2,hsl⟩:=h.open
  simp only [Tm.kind] at hnode
  rw [depT] at hk1
  refine run_intro Tryz.func107 rfl rfl rfl ?_
  repeat' ((conv=>whnf);first|refine gT ?_|refine gF ?_|refine VIf.not ?_|refine gA ?_|refine gB ?_|refine VIf.dec (fun h=>?_) (fun h=>?_)|refine gC ?_|refine gD ?_|refine VIf.mk (fun h=>?_) (fun h=>?_)|refine gO ?_|refine gP ?_|refine VNat.mk _ rfl ?_|refine gV ?_|refine vret_pf rfl ?_|refine vret_take rfl rfl ?_|refine vcall_pf hsh rfl rfl ?_|refine vcall_pf (hnode _ _) rfl rfl ?_|refine gK ?_)
  all_goals (try (conv=>whnf))
  · have hk17:1 ≤ k∧k ≤ 7:=by simp_all
    have hall0:allT (.mk k nn s ls ts) n kk=(rightLs ls n && allTs ts k 0 n kk):=by simp_all [allT]
    rw [if_pos hk17]
    refine loop_over (G:=Nat) (fun i=>[(39,iv i)]) (fun _=>_) (fun i=>i ≤ ls.length∧rightLs (ls.drop i) n=rightLs ls n) (fun i=>ls.length - i) 0 ⟨by omega,rfl⟩ rfl rfl ?_
    rintro i ⟨hi,hall⟩
    repeat' ((conv=>whnf);first|refine gT ?_|refine gF ?_|refine VIf.not ?_|refine gA ?_|refine gB ?_|refine VIf.dec (fun h=>?_) (fun h=>?_)|refine gC ?_|refine gD ?_|refine VIf.mk (fun h=>?_) (fun h=>?_)|refine gO ?_|refine gP ?_|refine VNat.mk _ rfl ?_|refine gV ?_|refine vret_pf rfl ?_|refine vret_take rfl rfl ?_|refine gK ?_)
    all_goals (try (conv=>whnf))
    · have hi':i < ls.length:=by omega
      obtain ⟨lc,hlc⟩:∃ lc,ls[i]? = some lc:=⟨_,List.getElem?_eq_getElem hi'⟩
      obtain ⟨v,hv,hl⟩:=hxs.at hlc
      have hr:=right_can lc _ hl n
      obtain ⟨k1,n1,l1,b1,z1,x1,rfl,rfl,hz1,hxs1,hlen1,hbd1⟩:=hl.open
      refine VIdx.mk _ hv (VOk.mk (szOk_of rfl hz) ?_)
      rw [drop_at hlc] at hall
      simp only [rightLs] at hall
      repeat' ((conv=>whnf);first|refine gT ?_|refine gF ?_|refine VIf.not ?_|refine gA ?_|refine gB ?_|refine VIf.dec (fun h=>?_) (fun h=>?_)|refine gC ?_|refine gD ?_|refine VIf.mk (fun h=>?_) (fun h=>?_)|refine gO ?_|refine gP ?_|refine VNat.mk _ rfl ?_|refine gV ?_|refine vret_pf rfl ?_|refine vret_take rfl rfl ?_|refine vcall_pf hr rfl rfl ?_|refine gK ?_)
      all_goals (try (conv=>whnf))
      · refine VAgain.mk _ rfl _ (gc_take rfl rfl rfl) ⟨i + 1,⟨hi',?_⟩,by omega,rfl⟩
        rw [← hall,h]
        rfl
      · have:rightLs ls n=false:=by
          rw [← hall,h]
          rfl
        rw [hall0,this]
        rfl
    · have hls:rightLs ls n=true:=by
        rw [← hall,List.drop_of_length_le (by omega)]
        rfl
      refine loop_over (G:=Nat) (fun i=>[(51,iv i)]) (fun _=>_) (fun j=>j ≤ ts.length∧allTs (ts.drop j) k j n kk=allTs ts k 0 n kk) (fun i=>ts.length - i) 0 ⟨by omega,rfl⟩ rfl rfl ?_
      rintro j ⟨hj,hallj⟩
      repeat' ((conv=>whnf);first|refine gT ?_|refine gF ?_|refine VIf.not ?_|refine gA ?_|refine gB ?_|refine VIf.dec (fun h=>?_) (fun h=>?_)|refine gC ?_|refine gD ?_|refine VIf.mk (fun h=>?_) (fun h=>?_)|refine gO ?_|refine gP ?_|refine VNat.mk _ rfl ?_|refine gV ?_|refine vret_pf rfl ?_|refine vret_take rfl rfl ?_|refine gK ?_)
      all_goals (try (conv=>whnf))
      · have hj':j < ts.length:=by omega
        obtain ⟨tc,htc⟩:∃ tc,ts[j]? = some tc:=⟨_,List.getElem?_eq_getElem hj'⟩
        obtain ⟨v,hv,hl⟩:=hys.at htc
        have hmem:=List.mem_of_getElem? htc
        have hdep:=depTs_mem hmem
        have hin:=inner_can (shArgs k) (shLevels k) (shBinds k) j kk (by omega) hk0
        have hinb:0 ≤ innerF (shBinds k) j kk∧innerF (shBinds k) j kk ≤ kk + 1:=by unfold innerF; split <;> omega
        have hrec:=ih _ hmem _ hl (hnt.2.mem _ hmem) n (innerF (shBinds k) j kk) hinb.1 (by omega)
        obtain ⟨k1,n1,s1,l1,t1,b1,z1,x1,c1,y1,ys1,rfl,rfl,hz1,hxs1,hlen1,hbd1,hy1,hys1,hlen21,hbd21,hsl1⟩:=hl.open
        refine VIdx.mk _ hv (VOk.mk (szOk_of rfl hy) ?_)
        rw [drop_at htc] at hallj
        simp only [allTs] at hallj
        repeat' ((conv=>whnf);first|refine gT ?_|refine gF ?_|refine VIf.not ?_|refine gA ?_|refine gB ?_|refine VIf.dec (fun h=>?_) (fun h=>?_)|refine gC ?_|refine gD ?_|refine VIf.mk (fun h=>?_) (fun h=>?_)|refine gO ?_|refine gP ?_|refine VNat.mk _ rfl ?_|refine gV ?_|refine vret_pf rfl ?_|refine vret_take rfl rfl ?_|refine finds_pf hin (fun _=>?_)|refine finds_pf hrec (fun _=>?_)|refine gK ?_)
        all_goals (try (conv=>whnf))
        · refine VAgain.mk _ rfl _ (gc_take rfl rfl rfl) ⟨j + 1,⟨hj',?_⟩,by omega,rfl⟩
          rw [← hallj,h,Int.natCast_add]
          rfl
        · have:allTs ts k 0 n kk=false:=by
            rw [← hallj,h]
            rfl
          rw [hall0,hls,this]
          rfl
      · have hts:allTs ts k 0 n kk=true:=by
          rw [← hallj,List.drop_of_length_le (by omega)]
          rfl
        rw [hall0,hls,hts]
        rfl
  all_goals simp_all [allT]
  all_goals first|done|omega|(intros; omega)
set_option maxRecDepth 100000 in
theorem rightT_can {NM:List UInt8→Prop} (hNM:NmOk NM) (t:Tm) (v:PV) (h:TmP t v) (hnt:NmT NM t) (n kk:Int):Pf C1 62 [v,iv n,iv kk] [bv (rightT t n kk)]:=by
  have hn:=nodesT_can t v h
  have ha:=fun (h0:0 ≤ kk) (h1:nodesT t ≤ 2000)=>allT_can hNM t v h hnt n (min kk 1125899906842624) (by omega) (by have:=nodes_dep h1; omega)
  rw [show min kk 1125899906842624=if 1125899906842624 < kk then 1125899906842624 else kk from (min_def'' _ _).symm] at ha
  obtain ⟨k,nn,s,ls,ts,b,z,xs,c,y,ys,rfl,rfl,hz,hxs,hlen,hbd,hy,hys,hlen2,hbd2,hsl⟩:=h.open
  refine run_intro Tryz.func62 rfl rfl rfl ?_
  repeat' ((conv=>whnf);first|refine gT ?_|refine gF ?_|refine VIf.not ?_|refine gA ?_|refine gB ?_|refine VIf.dec (fun h=>?_) (fun h=>?_)|refine gC ?_|refine gD ?_|refine VIf.mk (fun h=>?_) (fun h=>?_)|refine gO ?_|refine gP ?_|refine VNat.mk _ rfl ?_|refine gV ?_|refine vret_pf rfl ?_|refine vret_take rfl rfl ?_|refine vcall_pf hn rfl rfl ?_|refine vcall_pf (ha (by assumption) (by assumption)) rfl rfl ?_|refine gK ?_)
  all_goals (try (conv=>whnf))
  all_goals simp only [rightT,← min_def'']
  all_goals simp_all
  all_goals first|done|rfl|omega|(intros; omega)
end Go.Proofs.YtehhihdahalfeaaGreatDoor

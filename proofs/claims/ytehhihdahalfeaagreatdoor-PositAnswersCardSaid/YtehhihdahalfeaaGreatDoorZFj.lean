/-
  posit.Large and the document's stands (layer 18) in the plain machine. No statement of the seat.
-/
import Derived.Test.YtehhihdahalfeaaGreatDoorZFc
import Derived.Test.YtehhihdahalfeaaGreatDoorZDf
import Derived.Test.YtehhihdahalfeaaGreatDoorZEb
import Derived.Test.YtehhihdahalfeaaGreatDoorZUl
import Derived.Test.YtehhihdahalfeaaGreatDoorZWd
set_option linter.unusedVariables false
set_option linter.unusedSimpArgs false
set_option linter.unnecessarySimpa false
namespace Go.Proofs.YtehhihdahalfeaaGreatDoor
open Go Go.Am Go.Gw
set_option maxHeartbeats 1000000 in
set_option maxRecDepth 100000 in
theorem large_can (idx:Int) (l:Lv) (cs:List Co) (v u:PV) (h:FamP idx l cs v) (hu:LvP l u) (hb:cs.length ≤ 1000000):Pf C1 28 [v] [bv (decide (cs=[]) || leqF (.mk 1 1 []) l)]:=by
  have hlv:=encL_ok l u hu
  have hn:=never_can l _ hlv
  obtain ⟨b,z,xs,rfl,hz,hcs⟩:=h
  have hlen:=hcs.len
  obtain ⟨k,n,ls,b',z',xs',rfl,hE,hz',hxs',hlen',hbd'⟩:=hlv.open
  rw [hE] at hn ⊢
  have e:decide (cs=[])=decide (xs.length=0):=by
    cases cs with
    |nil=>simp at hlen; simp [hlen]
    |cons c r=>simp at hlen; simp [hlen]
  rw [e]
  refine run_intro Tryz.func28 rfl rfl rfl ?_
  repeat' ((conv=>whnf);first|refine gT ?_|refine gF ?_|refine VIf.not ?_|refine gA ?_|refine gB ?_|refine VIf.dec (fun h=>?_) (fun h=>?_)|refine gC ?_|refine gD ?_|refine VIf.mk (fun h=>?_) (fun h=>?_)|refine gO ?_|refine gP ?_|refine VNat.mk _ rfl ?_|refine gV ?_|refine vret_pf rfl ?_|refine vret_take rfl rfl ?_|refine vcall_pf hn rfl rfl ?_|refine finds_pf hn (fun _=>?_)|refine gK ?_)
  all_goals (try (conv=>whnf))
  · have h0:xs.length=0:=by omega
    simp [h0]
  · have h0:¬ xs.length=0:=by omega
    simp [h0,retV]
mutual
def st18 (nm:List UInt8):Tm→Bool
  | .mk k _ s _ ts=>(decide (k=3) && decide (s=nm)) || st18s nm ts
def st18s (nm:List UInt8):List Tm→Bool
  |[]=>false
  |t :: r=>st18 nm t || st18s nm r
end
theorem st18s_drop {nm:List UInt8} {ts:List Tm} {i:Nat} {t:Tm} (h:ts[i]? = some t):st18s nm (ts.drop i)=(st18 nm t || st18s nm (ts.drop (i + 1))):=by
  rw [drop_at h,st18s]
set_option maxHeartbeats 1000000 in
set_option maxRecDepth 100000 in
theorem stands18_can (t:Tm):∀ v,TmP t v→∀ d w,DcP d w→Pf C1 109 [w,v] [bv (st18 d.nm t)]:=by
  induction t using Tm.ind with
  |_ k n s ls ts ih =>
  intro v h d w hd
  have hd0:=hd
  obtain ⟨_,_,_,_,_,b,z,xs,c,y,ys,⟨rfl,rfl,rfl,rfl,rfl⟩,rfl,hz,hxs,hlen,hbd,hy,hys,hleny,hbdy,hsb⟩:=h.open
  obtain ⟨dk,dp,nm,dty,dvl,fx,cs,a1,a2,a3,a4,a5,a6,a7,a8,a9,b1,b2,b3,b4,b5,b6,b7,b8,b9,cb,cz,cx,hty,hvl,hz',hcs,hlen',hnm,hk,hp,hfx⟩:=hd
  have hfw:∀ t ∈ ts,∀ v,TmP t v→Pf C1 109 [_,v] [bv (st18 nm t)]:=fun t ht v hv=>ih t ht v hv _ _ hd0
  dsimp only
  refine run_intro Tryz.func109 rfl rfl rfl ?_
  repeat' ((conv=>whnf);first|refine gT ?_|refine gF ?_|refine VIf.not ?_|refine gA ?_|refine gB ?_|refine VIf.dec (fun h=>?_) (fun h=>?_)|refine gC ?_|refine gD ?_|refine VIf.mk (fun h=>?_) (fun h=>?_)|refine gO ?_|refine gP ?_|refine VNat.mk _ rfl ?_|refine gV ?_|refine vret_pf rfl ?_|refine vret_take rfl rfl ?_|refine gK ?_)
  all_goals (try (conv=>whnf))
  · refine VRes.mk _ seql ?_
    have hk3:k=3:=h
    repeat' ((conv=>whnf);first|refine gT ?_|refine gF ?_|refine VIf.not ?_|refine gA ?_|refine gB ?_|refine VIf.dec (fun h=>?_) (fun h=>?_)|refine gC ?_|refine gD ?_|refine VIf.mk (fun h=>?_) (fun h=>?_)|refine gO ?_|refine gP ?_|refine VNat.mk _ rfl ?_|refine gV ?_|refine vret_pf rfl ?_|refine vret_take rfl rfl ?_|refine gK ?_)
    all_goals (try (conv=>whnf))
    · have hs3:=h
      rw [st18,decide_eq_true hk3,show decide (s=nm)=true by simpa using hs3]
      rfl
    · have hs3:=h
      refine loop_over (G:=Nat) (fun i=>[(5,iv i)]) (fun _=>_) (fun i=>i ≤ ts.length∧st18s nm (ts.drop i)=st18s nm ts) (fun i=>ts.length - i) 0 ⟨by omega,rfl⟩ rfl rfl ?_
      rintro i ⟨hi,hall⟩
      repeat' ((conv=>whnf);first|refine gT ?_|refine gF ?_|refine VIf.not ?_|refine gA ?_|refine gB ?_|refine VIf.dec (fun h=>?_) (fun h=>?_)|refine gC ?_|refine gD ?_|refine VIf.mk (fun h=>?_) (fun h=>?_)|refine gO ?_|refine gP ?_|refine VNat.mk _ rfl ?_|refine gV ?_|refine vret_pf rfl ?_|refine vret_take rfl rfl ?_|refine gK ?_)
      all_goals (try (conv=>whnf))
      · have hi':i < ts.length:=by omega
        obtain ⟨lc,hlc⟩:∃ lc,ts[i]? = some lc:=⟨_,List.getElem?_eq_getElem hi'⟩
        obtain ⟨v,hv,hl⟩:=hys.at hlc
        have hr:=hfw _ (List.mem_of_getElem? hlc) _ hl
        obtain ⟨k1,n1,s1,l1,t1,b1,z1,x1,c1,y1,ys1,rfl,rfl,-⟩:=hl.open
        rw [st18s_drop hlc] at hall
        refine VIdx.mk _ hv (VOk.mk (szOk_of rfl hy) ?_)
        repeat' ((conv=>whnf);first|refine gT ?_|refine gF ?_|refine VIf.not ?_|refine gA ?_|refine gB ?_|refine VIf.dec (fun h=>?_) (fun h=>?_)|refine gC ?_|refine gD ?_|refine VIf.mk (fun h=>?_) (fun h=>?_)|refine gO ?_|refine gP ?_|refine VNat.mk _ rfl ?_|refine gV ?_|refine vret_pf rfl ?_|refine vret_take rfl rfl ?_|refine vcall_pf hr rfl rfl ?_|refine finds_pf hr (fun _=>?_)|refine gK ?_)
        all_goals (try (conv=>whnf))
        · have h1:=h
          rw [h1,Bool.true_or] at hall
          rw [st18,← hall,Bool.or_true]
        · have h1:=h
          rw [h1,Bool.false_or] at hall
          exact VAgain.mk _ rfl _ (gc_take rfl rfl rfl) ⟨i + 1,⟨hi',hall⟩,by omega,rfl⟩
      · have hi':i=ts.length:=by omega
        subst hi'
        rw [List.drop_length] at hall
        rw [st18,← hall,show decide (s=nm)=false by simpa using hs3,Bool.and_false]
        rfl
  · have hk3:¬ k=3:=h
    refine loop_over (G:=Nat) (fun i=>[(5,iv i)]) (fun _=>_) (fun i=>i ≤ ts.length∧st18s nm (ts.drop i)=st18s nm ts) (fun i=>ts.length - i) 0 ⟨by omega,rfl⟩ rfl rfl ?_
    rintro i ⟨hi,hall⟩
    repeat' ((conv=>whnf);first|refine gT ?_|refine gF ?_|refine VIf.not ?_|refine gA ?_|refine gB ?_|refine VIf.dec (fun h=>?_) (fun h=>?_)|refine gC ?_|refine gD ?_|refine VIf.mk (fun h=>?_) (fun h=>?_)|refine gO ?_|refine gP ?_|refine VNat.mk _ rfl ?_|refine gV ?_|refine vret_pf rfl ?_|refine vret_take rfl rfl ?_|refine gK ?_)
    all_goals (try (conv=>whnf))
    · have hi':i < ts.length:=by omega
      obtain ⟨lc,hlc⟩:∃ lc,ts[i]? = some lc:=⟨_,List.getElem?_eq_getElem hi'⟩
      obtain ⟨v,hv,hl⟩:=hys.at hlc
      have hr:=hfw _ (List.mem_of_getElem? hlc) _ hl
      obtain ⟨k1,n1,s1,l1,t1,b1,z1,x1,c1,y1,ys1,rfl,rfl,-⟩:=hl.open
      rw [st18s_drop hlc] at hall
      refine VIdx.mk _ hv (VOk.mk (szOk_of rfl hy) ?_)
      repeat' ((conv=>whnf);first|refine gT ?_|refine gF ?_|refine VIf.not ?_|refine gA ?_|refine gB ?_|refine VIf.dec (fun h=>?_) (fun h=>?_)|refine gC ?_|refine gD ?_|refine VIf.mk (fun h=>?_) (fun h=>?_)|refine gO ?_|refine gP ?_|refine VNat.mk _ rfl ?_|refine gV ?_|refine vret_pf rfl ?_|refine vret_take rfl rfl ?_|refine vcall_pf hr rfl rfl ?_|refine finds_pf hr (fun _=>?_)|refine gK ?_)
      all_goals (try (conv=>whnf))
      · have h1:=h
        rw [h1,Bool.true_or] at hall
        rw [st18,← hall,Bool.or_true]
      · have h1:=h
        rw [h1,Bool.false_or] at hall
        exact VAgain.mk _ rfl _ (gc_take rfl rfl rfl) ⟨i + 1,⟨hi',hall⟩,by omega,rfl⟩
    · have hi':i=ts.length:=by omega
      subst hi'
      rw [List.drop_length] at hall
      rw [st18,← hall,decide_eq_false hk3,Bool.false_and]
      rfl
end Go.Proofs.YtehhihdahalfeaaGreatDoor
namespace Go.Proofs.YtehhihdahalfeaaGreatDoor
open Go Go.Am Go.Gw
def idxBad (d:Dc):Prop:=((piF d.ty).1.length:Int) < d.fx∨¬ (piF d.ty).2.kind=2
instance (d:Dc):Decidable (idxBad d):=inferInstanceAs (Decidable (_∨_))
def idxV (d:Dc):List PV:=if idxBad d then [iv 0,.ag [iv 0,iv 0,.sl true 0 []],bv false] else [iv (idxD d),encL (lvD d),bv true]
set_option maxHeartbeats 2000000 in
set_option maxRecDepth 100000 in
theorem indices18_can (d:Dc) (v:PV) (h:DcP d v) (kk:Int) (hall:allT d.ty 4 kk=true) (hdp:depT d.ty ≤ 2000) (hfx:0 ≤ d.fx∧d.fx ≤ 16):Pf C1 103 [v] (idxV d):=by
  obtain ⟨k,p,nm,ty,vl,fx,cs,a1,a2,a3,a4,a5,a6,a7,a8,a9,b1,b2,b3,b4,b5,b6,b7,b8,b9,cb,cz,cx,hty,hvl,hz,hxs,hlen,hnm,hk,hp,hfx1⟩:=h
  dsimp only at hall hdp hfx
  refine run_intro Tryz.func103 rfl rfl rfl ?_
  repeat' ((conv=>whnf);first|refine gT ?_|refine gF ?_|refine VIf.not ?_|refine gA ?_|refine gB ?_|refine VIf.dec (fun h=>?_) (fun h=>?_)|refine gC ?_|refine gD ?_|refine VIf.mk (fun h=>?_) (fun h=>?_)|refine gO ?_|refine gP ?_|refine VNat.mk _ rfl ?_|refine gV ?_|refine vret_pf rfl ?_|refine vret_take rfl rfl ?_|refine gK ?_)
  all_goals (try (conv=>whnf))
  refine loop_over (G:=Tm × PV × Nat) (fun g=>[(6,iv g.2.2)]) (fun g=>[.box 46 [iv k,iv p,sv nm,iv a1,iv a2,sv a3,.sl a4 a5 a6,.sl a7 a8 a9,iv b1,iv b2,sv b3,.sl b4 b5 b6,.sl b7 b8 b9,iv fx,.sl cb cz cx],.box 50 [iv 0,iv 0,.sl true 0 []],.box 25 g.2.1.cells]) (fun g=>TmP g.1 g.2.1∧(∃ kk,allT g.1 4 kk=true)∧g.2.2 + depT g.1 ≤ 2000∧(piF ty).1.length=g.2.2 + (piF g.1).1.length∧(piF ty).2=(piF g.1).2) (fun g=>sizT g.1) (ty,.ag [iv a1,iv a2,sv a3,.sl a4 a5 a6,.sl a7 a8 a9],0) ⟨hty,⟨_,hall⟩,by simpa using hdp,by simp,rfl⟩ rfl rfl ?_
  rintro ⟨u,w,q⟩ ⟨hu,⟨kk,hall1⟩,hdq,hpl,hpb⟩
  dsimp only at hu hall1 hdq hpl hpb ⊢
  obtain ⟨k1,nn,s,ls,ts,b,z,xs,c,y,ys,rfl,rfl,hz1,hxs1,hlen1,hbd1,hy,hys,hlen2,hbd2,hsl⟩:=hu.open
  simp only [PV.cells]
  repeat' ((conv=>whnf);first|refine gT ?_|refine gF ?_|refine VIf.not ?_|refine gA ?_|refine gB ?_|refine VIf.dec (fun h=>?_) (fun h=>?_)|refine gC ?_|refine gD ?_|refine VIf.mk (fun h=>?_) (fun h=>?_)|refine gO ?_|refine gP ?_|refine VNat.mk _ rfl ?_|refine gV ?_|refine vret_pf rfl ?_|refine vret_take rfl rfl ?_|refine gK ?_)
  all_goals (try (conv=>whnf))
  · obtain rfl:k1=6:=h
    obtain ⟨a',b',rfl,-,hb'⟩:=allT_two hall1 rfl
    obtain ⟨vb,hvb,hlb⟩:=hys.at (by rfl:[a',b'][1]? = some b')
    obtain ⟨k2,n2,s2,l2,t2,b2',z2,x2,c2,y2,ys2,rfl,rfl,-⟩:=hlb.open
    rw [piF_pi] at hpl hpb
    simp only [depT,depTs] at hdq
    refine VIdx.mk _ hvb (VOk.mk (szOk_of rfl hy) ?_)
    repeat' ((conv=>whnf);first|refine gT ?_|refine gF ?_|refine VIf.not ?_|refine gA ?_|refine gB ?_|refine VIf.dec (fun h=>?_) (fun h=>?_)|refine gC ?_|refine gD ?_|refine VIf.mk (fun h=>?_) (fun h=>?_)|refine gO ?_|refine gP ?_|refine VNat.mk _ rfl ?_|refine gV ?_|refine vret_pf rfl ?_|refine vret_take rfl rfl ?_|refine gK ?_)
    all_goals (try (conv=>whnf))
    exact VAgain.mk _ rfl _ (gc_take rfl rfl rfl) ⟨(.mk k2 n2 s2 l2 t2,.ag [iv k2,iv n2,sv s2,.sl b2' z2 x2,.sl c2 y2 ys2],q + 1),⟨hlb,⟨_,hb'⟩,by simp only [depT]; omega,by simp only [List.length_cons] at hpl; dsimp only; omega,hpb⟩,by simp only [sizT,sizTs]; omega,rfl⟩
  · rename_i h6
    have hq:=h
    rw [piF_off h6] at hpl hpb
    have hbad:idxBad ⟨k,p,nm,ty,vl,fx,cs⟩:=by
      left
      show ((piF ty).1.length:Int) < fx
      rw [hpl]
      simp
      omega
    rw [idxV,if_pos hbad]
    rfl
  · have h2:k1=2:=h
    rename_i hq
    rename_i h6
    rw [piF_off h6] at hpl hpb
    obtain ⟨l,hl⟩:=sort_level hall1 h2
    obtain rfl:ls=[l]:=hl
    obtain ⟨vl1,hvl1,hlv1⟩:=hxs1.at (by rfl:[l][0]? = some l)
    have hcp:=CopyLevel_can l vl1 hlv1
    obtain ⟨k3,n3,l3,b3',z3,x3,rfl,rfl,-⟩:=hlv1.open
    obtain ⟨k4,n4,b4',z4,x4,he⟩:=encL_open (.mk k3 n3 l3)
    rw [he] at hcp
    have hgood:¬ idxBad ⟨k,p,nm,ty,vl,fx,cs⟩:=by
      rintro (e|e)
      · have e:((piF ty).1.length:Int) < fx:=e
        rw [hpl] at e
        simp at e
        omega
      · have e:¬ (piF ty).2.kind=2:=e
        rw [hpb] at e
        exact e h2
    have hid:idxD ⟨k,p,nm,ty,vl,fx,cs⟩=q - fx:=by
      show ((piF ty).1.length:Int) - fx=q - fx
      rw [hpl]
      simp
    have hlD:lvD ⟨k,p,nm,ty,vl,fx,cs⟩ = .mk k3 n3 l3:=by
      show (Tm.levels (piF ty).2).headD (.mk 0 0 [])=_
      rw [hpb]
      rfl
    rw [idxV,if_neg hgood,hid,hlD,he]
    refine VIdx.mk _ hvl1 (VOk.mk (szOk_of rfl hz1) ?_)
    repeat' ((conv=>whnf);first|refine gT ?_|refine gF ?_|refine VIf.not ?_|refine gA ?_|refine gB ?_|refine VIf.dec (fun h=>?_) (fun h=>?_)|refine gC ?_|refine gD ?_|refine VIf.mk (fun h=>?_) (fun h=>?_)|refine gO ?_|refine gP ?_|refine VNat.mk _ rfl ?_|refine gV ?_|refine vret_pf rfl ?_|refine vret_take rfl rfl ?_|refine vcall_pf hcp rfl rfl ?_|refine finds_pf hcp (fun _=>?_)|refine gK ?_)
    all_goals (try (conv=>whnf))
    rfl
  · rename_i hq
    rename_i h6
    have h2:¬ k1=2:=h
    rw [piF_off h6] at hpl hpb
    have hbad:idxBad ⟨k,p,nm,ty,vl,fx,cs⟩:=by
      right
      show ¬ (piF ty).2.kind=2
      rw [hpb]
      exact h2
    rw [idxV,if_pos hbad]
    rfl
end Go.Proofs.YtehhihdahalfeaaGreatDoor
namespace Go.Proofs.YtehhihdahalfeaaGreatDoor
open Go Go.Am Go.Gw
set_option maxHeartbeats 2000000 in
set_option maxRecDepth 100000 in
theorem Formed8_can (d:Dc) (v:PV) (h:DcP d v):Pf C1 102 [v] [bv (formedF d)]:=by
  obtain ⟨k,p,nm,ty,vl,fx,cs,a1,a2,a3,a4,a5,a6,a7,a8,a9,b1,b2,b3,b4,b5,b6,b7,b8,b9,cb,cz,cx,hty,hvl,hz,hxs,hlen,hnm,hk,hp,hfx⟩:=h
  have hn:=refName_can nm hnm
  have ht:=refRightT_can ty _ hty hty.names p 0
  have hv:=refRightT_can vl _ hvl hvl.names p 0
  have hs:=SameTerm_can vl _ hvl tz _ tz_P
  have hcl:=hxs.len
  have hF:1 ≤ k∧k ≤ 5→nameF nm=true→rightT ty p 0=true→formedF ⟨k,p,nm,ty,vl,fx,cs⟩=(if k=5 then eqTm vl tz && (decide (0 ≤ fx) && (decide (fx ≤ 16) && (decide (cs.length ≤ 8) && !cs.any (wrongC p))))
        else if fx ≠ 0∨cs.length ≠ 0 then false
        else if 2 ≤ k∧k ≤ 4 then rightT vl p 0
        else eqTm vl tz):=fun e1 e2 e3=>by rw [formedF,if_pos (by simp [e1,e2,e3])]
  refine run_intro Tryz.func102 rfl rfl rfl ?_
  repeat' ((conv=>whnf);first|refine gT ?_|refine gF ?_|refine VIf.not ?_|refine gA ?_|refine gB ?_|refine VIf.dec (fun h=>?_) (fun h=>?_)|refine gC ?_|refine gD ?_|refine VIf.mk (fun h=>?_) (fun h=>?_)|refine gO ?_|refine gP ?_|refine VNat.mk _ rfl ?_|refine gV ?_|refine vret_pf rfl ?_|refine vret_take rfl rfl ?_|refine vcall_pf hn rfl rfl ?_|refine vcall_pf ht rfl rfl ?_|refine vcall_pf hv rfl rfl ?_|refine vcall_pf hs rfl rfl ?_|refine gK ?_)
  all_goals (try (conv=>whnf))
  rotate_left 5
  · have h1:1 ≤ k∧k ≤ 5:=by omega
    have hn1:nameF nm=true:=by assumption
    have ht1:rightT ty p 0=true:=by assumption
    have hk5:k=5:=by assumption
    have hv1:eqTm vl tz=true:=by assumption
    have hc8:cs.length ≤ 8:=by omega
    have e1:(0:Int) ≤ fx:=by omega
    have e2:fx ≤ 16:=by omega
    have hF2:formedF ⟨k,p,nm,ty,vl,fx,cs⟩ = !cs.any (wrongC p):=by
      rw [hF h1 hn1 ht1,if_pos hk5]
      simp [hv1,e1,e2,hc8]
    rw [hF2]
    refine loop_over (G:=Nat) (fun i=>[(4,iv i)]) (fun _=>_) (fun i=>i ≤ cs.length∧(cs.drop i).any (wrongC p)=cs.any (wrongC p)) (fun i=>cs.length - i) 0 ⟨by omega,rfl⟩ rfl rfl ?_
    rintro i ⟨hi,hall⟩
    repeat' ((conv=>whnf);first|refine gT ?_|refine gF ?_|refine VIf.not ?_|refine gA ?_|refine gB ?_|refine VIf.dec (fun h=>?_) (fun h=>?_)|refine gC ?_|refine gD ?_|refine VIf.mk (fun h=>?_) (fun h=>?_)|refine gO ?_|refine gP ?_|refine VNat.mk _ rfl ?_|refine gV ?_|refine vret_pf rfl ?_|refine vret_take rfl rfl ?_|refine gK ?_)
    all_goals (try (conv=>whnf))
    · have hi':i < cs.length:=by omega
      obtain ⟨lc,hlc⟩:∃ lc,cs[i]? = some lc:=⟨_,List.getElem?_eq_getElem hi'⟩
      obtain ⟨v,hv,hl⟩:=hxs.at hlc
      obtain ⟨s0,k1,n1,s1,b',z',xs',c',y',ys',t',rfl,rfl,hT,hsl⟩:=hl.open
      have hn2:=refName_can s0 hsl
      have ht2:=refRightT_can t' _ hT hT.names p 0
      rw [drop_at hlc,List.any_cons] at hall
      refine VIdx.mk _ hv (VOk.mk (szOk_of rfl hz) ?_)
      repeat' ((conv=>whnf);first|refine gT ?_|refine gF ?_|refine VIf.not ?_|refine gA ?_|refine gB ?_|refine VIf.dec (fun h=>?_) (fun h=>?_)|refine gC ?_|refine gD ?_|refine VIf.mk (fun h=>?_) (fun h=>?_)|refine gO ?_|refine gP ?_|refine VNat.mk _ rfl ?_|refine gV ?_|refine vret_pf rfl ?_|refine vret_take rfl rfl ?_|refine vcall_pf hn2 rfl rfl ?_|refine vcall_pf ht2 rfl rfl ?_|refine finds_pf hn2 (fun _=>?_)|refine VIdx.mk _ hv ?_|refine VOk.mk (szOk_of rfl hz) ?_|refine finds_pf ht2 (fun _=>?_)|refine gK ?_)
      all_goals (try (conv=>whnf))
      · have hw:wrongC p (s0,t')=false:=by simp_all [wrongC]
        rw [hw,Bool.false_or] at hall
        exact VAgain.mk _ rfl _ (gc_take rfl rfl rfl) ⟨i + 1,⟨hi',hall⟩,by omega,rfl⟩
      · have hw:wrongC p (s0,t')=true:=by simp_all [wrongC]
        rw [← hall,hw,Bool.true_or]
        rfl
      · have hw:wrongC p (s0,t')=true:=by simp_all [wrongC]
        rw [← hall,hw,Bool.true_or]
        rfl
    · have hi':i=cs.length:=by omega
      subst hi'
      rw [List.drop_length] at hall
      rw [← hall]
      rfl
  all_goals try (rw [formedF,if_neg (by simp; omega)]; done)
  all_goals try (rw [hF (by omega) (by assumption) (by assumption)]; simp_all [retV]; done)
  all_goals try (rw [hF (by omega) (by assumption) (by assumption)]; simp_all [retV]; omega)
  all_goals try (rw [hF (by omega) (by assumption) (by assumption)]; simp_all [retV]; intros; omega)
  all_goals try (rw [hF (by omega) (by assumption) (by assumption),if_neg (by omega),if_neg (by omega),if_neg (by omega)]; rfl)
  all_goals try (rw [hF (by omega) (by assumption) (by assumption),if_neg (by omega),if_neg (by omega),if_pos (by omega)]; rfl)
  all_goals try (rw [hF (by omega) (by assumption) (by assumption),if_neg (by omega),if_pos (by omega)]; done)
  all_goals try (rw [formedF,if_neg (by simp_all)]; done)
end Go.Proofs.YtehhihdahalfeaaGreatDoor
namespace Go.Proofs.YtehhihdahalfeaaGreatDoor
open Go Go.Am Go.Gw
def jo (nm:List UInt8):Nat→List UInt8
  |0=>[]
  |1=>nm
  |_=>nm ++ [46,114,101,99]
set_option maxHeartbeats 2000000 in
set_option maxRecDepth 100000 in
theorem joinRec1_can (nm:List UInt8) (hnm:nm.length ≤ 140737488355328):∃ ok,Pf C1 146 [.sl true 1 [sv nm,sv [114,101,99]]] [sv (recF nm),bv ok]:=by
  have hrec:nameF [114,101,99]=true:=by kernel_rfl
  suffices key:Finds C1 146 [.sl true 1 [sv nm,sv [114,101,99]]] [] fun r _=>∃ ok,r = .ret [sv (recF nm),bv ok] by
    obtain ⟨r,st',⟨q,rfl⟩,N,hN⟩:=key
    exact ⟨q,_,st',rfl,N,hN⟩
  have hlen:=fun h=>nameF_len (s:=nm) h
  have h1:=refName_can nm hnm
  have h2:=refName_can [114,101,99] (by simp)
  rw [hrec] at h2
  have hr:=fun (h:nm.length ≤ 40)=>refName_can (nm ++ [46,114,101,99]) (by simp; omega)
  refine run_intro Tryz.func146 rfl rfl rfl ?_
  repeat' ((conv=>whnf);first|refine gT ?_|refine gF ?_|refine VIf.not ?_|refine gA ?_|refine gB ?_|refine VIf.dec (fun h=>?_) (fun h=>?_)|refine gC ?_|refine gD ?_|refine VIf.mk (fun h=>?_) (fun h=>?_)|refine gO ?_|refine gP ?_|refine VNat.mk _ rfl ?_|refine gV ?_|refine vret_pf rfl ?_|refine vret_take rfl rfl ?_|refine gK ?_)
  all_goals (try (conv=>whnf))
  refine loop_over (G:=Nat) (fun i=>[(5,iv i),(4,sv (jo nm i))]) (fun _=>_) (fun i=>i ≤ 2∧(1 ≤ i→nameF nm=true)) (fun i=>2 - i) 0 ⟨by omega,by omega⟩ rfl rfl ?_
  rintro i ⟨hi,hn⟩
  match i,hi with
  |0,_ =>
    simp only [jo]
    repeat' ((conv=>whnf);first|refine gT ?_|refine gF ?_|refine VIf.not ?_|refine gA ?_|refine gB ?_|refine VIf.dec (fun h=>?_) (fun h=>?_)|refine gC ?_|refine gD ?_|refine VIf.mk (fun h=>?_) (fun h=>?_)|refine gO ?_|refine gP ?_|refine VNat.mk _ rfl ?_|refine gV ?_|refine vret_pf rfl ?_|refine vret_take rfl rfl ?_|refine VIdx.mk (sv nm) rfl ?_|refine vcall_pf h1 rfl rfl ?_|refine finds_pf h1 (fun _=>?_)|refine gK ?_)
    all_goals (try (conv=>whnf))
    · refine VRes.mk _ (sadd (a:=[]) (by simp; omega)) ?_
      repeat' ((conv=>whnf);first|refine gT ?_|refine gF ?_|refine VIf.not ?_|refine gA ?_|refine gB ?_|refine VIf.dec (fun h=>?_) (fun h=>?_)|refine gC ?_|refine gD ?_|refine VIf.mk (fun h=>?_) (fun h=>?_)|refine gO ?_|refine gP ?_|refine VNat.mk _ rfl ?_|refine gV ?_|refine vret_pf rfl ?_|refine vret_take rfl rfl ?_|refine gK ?_)
      all_goals (try (conv=>whnf))
      exact VAgain.mk _ rfl _ (gc_take rfl rfl rfl) ⟨1,⟨by omega,fun _=>by assumption⟩,by omega,rfl⟩
    · exact ⟨_,by rw [recF,if_neg (by simp_all)]⟩
  |1,_ =>
    simp only [jo]
    have hn1:=hn (by omega)
    have hl:=hlen hn1
    repeat' ((conv=>whnf);first|refine gT ?_|refine gF ?_|refine VIf.not ?_|refine gA ?_|refine gB ?_|refine VIf.dec (fun h=>?_) (fun h=>?_)|refine gC ?_|refine gD ?_|refine VIf.mk (fun h=>?_) (fun h=>?_)|refine gO ?_|refine gP ?_|refine VNat.mk _ rfl ?_|refine gV ?_|refine vret_pf rfl ?_|refine vret_take rfl rfl ?_|refine VIdx.mk (sv [114,101,99]) rfl ?_|refine vcall_pf h2 rfl rfl ?_|refine finds_pf h2 (fun _=>?_)|refine gK ?_)
    all_goals (try (conv=>whnf))
    · exact absurd h (by rw [ba_size]; omega)
    · have e:nm ++ [46] ++ [114,101,99]=nm ++ [46,114,101,99]:=by simp
      refine VRes.mk _ (sadd (a:=nm) (b:=[46]) (by simp; omega)) ?_
      repeat' ((conv=>whnf);first|refine gT ?_|refine gF ?_|refine VIf.not ?_|refine gA ?_|refine gB ?_|refine VIf.dec (fun h=>?_) (fun h=>?_)|refine gC ?_|refine gD ?_|refine VIf.mk (fun h=>?_) (fun h=>?_)|refine gO ?_|refine gP ?_|refine VNat.mk _ rfl ?_|refine gV ?_|refine vret_pf rfl ?_|refine vret_take rfl rfl ?_|refine VIdx.mk (sv [114,101,99]) rfl ?_|refine gK ?_)
      all_goals (try (conv=>whnf))
      refine VRes.mk _ (sadd (a:=nm ++ [46]) (b:=[114,101,99]) (by simp; omega)) ?_
      repeat' ((conv=>whnf);first|refine gT ?_|refine gF ?_|refine VIf.not ?_|refine gA ?_|refine gB ?_|refine VIf.dec (fun h=>?_) (fun h=>?_)|refine gC ?_|refine gD ?_|refine VIf.mk (fun h=>?_) (fun h=>?_)|refine gO ?_|refine gP ?_|refine VNat.mk _ rfl ?_|refine gV ?_|refine vret_pf rfl ?_|refine vret_take rfl rfl ?_|refine gK ?_)
      all_goals (try (conv=>whnf))
      exact VAgain.mk _ rfl _ (gc_take rfl rfl rfl) ⟨2,⟨by omega,fun _=>hn1⟩,by omega,by simp only [jo]; rw [← e]; rfl⟩
  |2,_ =>
    simp only [jo]
    have hn1:=hn (by omega)
    have hr2:=hr (hlen hn1)
    repeat' ((conv=>whnf);first|refine gT ?_|refine gF ?_|refine VIf.not ?_|refine gA ?_|refine gB ?_|refine VIf.dec (fun h=>?_) (fun h=>?_)|refine gC ?_|refine gD ?_|refine VIf.mk (fun h=>?_) (fun h=>?_)|refine gO ?_|refine gP ?_|refine VNat.mk _ rfl ?_|refine gV ?_|refine vret_pf rfl ?_|refine vret_take rfl rfl ?_|refine vcall_pf hr2 rfl rfl ?_|refine finds_pf hr2 (fun _=>?_)|refine gK ?_)
    all_goals (try (conv=>whnf))
    · exact ⟨_,by rw [recF,if_pos (by simp_all)]⟩
    · exact ⟨_,by rw [recF,if_neg (by simp_all)]⟩
  |n + 3,h=>exact absurd h (by omega)
def nmS9 (c:SO) (nm:List UInt8) (cs:List (List UInt8 × Tm)):Nat→Sto
  |0=>[c]
  |i + 1=>[c,.row false 9 1 (sv nm :: svs ((cs.take (i + 1)).map (·.1)))]
def nmV9 (nm:List UInt8):Nat→PV
  |0=>.sl true 1 [sv nm]
  |i + 1=>.ms 1 (i + 2)
set_option maxHeartbeats 2000000 in
set_option maxRecDepth 100000 in
theorem names9_can (d:Dc) (v:PV) (h:DcP d v) (hcs:d.cs.length ≤ 1000000):∃ b,Pf C1 104 [v] [.sl b 1 (svs (namesD d))]:=by
  suffices key:Finds C1 104 [v] [] fun r _=>∃ b,r = .ret [.sl b 1 (svs (namesD d))] by
    obtain ⟨r,st',⟨q,rfl⟩,N,hN⟩:=key
    exact ⟨q,_,st',rfl,N,hN⟩
  obtain ⟨k,p,nm,ty,vl,fx,cs,a1,a2,a3,a4,a5,a6,a7,a8,a9,b1,b2,b3,b4,b5,b6,b7,b8,b9,cb,cz,cx,hty,hvl,hz,hxs,hlen,hnm,hk,hp,hfx⟩:=h
  obtain ⟨ok,hj⟩:=joinRec1_can nm hnm
  have hcx:=hxs.len
  dsimp only at hcs
  refine run_intro Tryz.func104 rfl rfl rfl ?_
  repeat' ((conv=>whnf);first|refine gT ?_|refine gF ?_|refine VIf.not ?_|refine gA ?_|refine gB ?_|refine VIf.dec (fun h=>?_) (fun h=>?_)|refine gC ?_|refine gD ?_|refine VIf.mk (fun h=>?_) (fun h=>?_)|refine gO ?_|refine gP ?_|refine VNat.mk _ rfl ?_|refine gV ?_|refine vret_pf rfl ?_|refine vret_take rfl rfl ?_|refine gK ?_)
  all_goals (try (conv=>whnf))
  · refine loop_over (G:=Nat) (fun i=>[(4,iv i),(3,nmV9 nm i)]) (fun i=>nmS9 (.box 46 [iv k,iv p,sv nm,iv a1,iv a2,sv a3,.sl a4 a5 a6,.sl a7 a8 a9,iv b1,iv b2,sv b3,.sl b4 b5 b6,.sl b7 b8 b9,iv fx,.sl cb cz cx]) nm cs i) (fun i=>i ≤ cs.length) (fun i=>cs.length - i) 0 (by omega) rfl rfl ?_
    intro i hi
    have hnext:i < cs.length→∃ c x cc,cs[i]? = some (c,x)∧cx[i]? = some (.ag (sv c :: cc))∧∃ q1 q2 q3 q4 q5 q6 q7 q8 q9,cc=[iv q1,iv q2,sv q3,.sl q4 q5 q6,.sl q7 q8 q9]:=fun hi=>by
      obtain ⟨c,hc⟩:∃ c,cs[i]? = some c:=⟨_,List.getElem?_eq_getElem hi⟩
      obtain ⟨v,hv,hl⟩:=hxs.at hc
      obtain ⟨s,q1,q2,q3,q4,q5,q6,q7,q8,q9,t,rfl,rfl,-⟩:=hl.open
      exact ⟨s,t,_,hc,hv,q1,q2,q3,q4,q5,q6,q7,q8,q9,rfl⟩
    have hall:¬ i < cs.length→namesD ⟨k,p,nm,ty,vl,fx,cs⟩=nm :: ((cs.take i).map (·.1) ++ [recF nm]):=fun hi=>by
      rw [namesD,if_pos (by assumption),List.take_of_length_le (by omega)]
    cases i with
    |zero =>
      simp only [nmS9,nmV9]
      repeat' ((conv=>whnf);first|refine gT ?_|refine gF ?_|refine VIf.not ?_|refine gA ?_|refine gB ?_|refine VIf.dec (fun h=>?_) (fun h=>?_)|refine gC ?_|refine gD ?_|refine VIf.mk (fun h=>?_) (fun h=>?_)|refine gO ?_|refine gP ?_|refine VNat.mk _ rfl ?_|refine gV ?_|refine vret_pf rfl ?_|refine vret_take rfl rfl ?_|refine vcall_pf hj rfl rfl ?_|refine gK ?_)
      all_goals (try (conv=>whnf))
      · obtain ⟨c,x,cc,hc,hv,q1,q2,q3,q4,q5,q6,q7,q8,q9,rfl⟩:=hnext (by omega)
        repeat' ((conv=>whnf);first|refine gT ?_|refine gF ?_|refine VIf.not ?_|refine gA ?_|refine gB ?_|refine VIf.dec (fun h=>?_) (fun h=>?_)|refine gC ?_|refine gD ?_|refine VIf.mk (fun h=>?_) (fun h=>?_)|refine gO ?_|refine gP ?_|refine VNat.mk _ rfl ?_|refine gV ?_|refine vret_pf rfl ?_|refine vret_take rfl rfl ?_|refine VIdx.mk _ hv ?_|refine VOk.mk (szOk_of rfl hz) ?_|refine gK ?_)
        all_goals (try (conv=>whnf))
        have e:(cs.take 1).map (·.1)=[c]:=by
          cases cs with
          |nil=>simp at hc
          |cons d r=>simp at hc; subst hc; rfl
        refine VAgain.mk _ rfl _ (gc_sh (.cons (sh_box rfl rfl) (.cons (sh_row rfl) .nil)) (.cons (sh_box rfl rfl) (.cons (sh_row rfl) .nil)) rfl rfl rfl rfl rfl) ⟨1,by omega,by omega,?_⟩
        dsimp only [nmS9,nmV9]
        rw [e]
        rfl
      · refine vret_pub rfl (mapS_cons (pubV_row rfl (by simp) rfl) mapS_nil) rfl ?_
        exact ⟨_,by rw [hall (by omega)]; rfl⟩
    |succ i =>
      simp only [nmS9,nmV9]
      have hp8:(sv nm :: svs ((cs.take (i + 1)).map (·.1))).all (pur 8)=true:=by
        rw [show sv nm :: svs ((cs.take (i + 1)).map (·.1))=svs (nm :: (cs.take (i + 1)).map (·.1)) from rfl]
        exact svs_pure _
      have hl8:(sv nm :: svs ((cs.take (i + 1)).map (·.1))).length=i + 2:=by simp; omega
      repeat' ((conv=>whnf);first|refine gT ?_|refine gF ?_|refine VIf.not ?_|refine gA ?_|refine gB ?_|refine VIf.dec (fun h=>?_) (fun h=>?_)|refine gC ?_|refine gD ?_|refine VIf.mk (fun h=>?_) (fun h=>?_)|refine gO ?_|refine gP ?_|refine VNat.mk _ rfl ?_|refine gV ?_|refine vret_pf rfl ?_|refine vret_take rfl rfl ?_|refine vcall_pf hj rfl rfl ?_|refine VOk.mk (grow_ok (w:=16) (r:=140737488355328) hl8 rfl rfl rfl rfl (by simp only [List.length_cons,List.length_nil]; omega) (by simp only [List.length_cons,List.length_nil]; omega)) ?_|refine gK ?_)
      all_goals (try (conv=>whnf))
      · obtain ⟨c,x,cc,hc,hv,q1,q2,q3,q4,q5,q6,q7,q8,q9,rfl⟩:=hnext (by omega)
        repeat' ((conv=>whnf);first|refine gT ?_|refine gF ?_|refine VIf.not ?_|refine gA ?_|refine gB ?_|refine VIf.dec (fun h=>?_) (fun h=>?_)|refine gC ?_|refine gD ?_|refine VIf.mk (fun h=>?_) (fun h=>?_)|refine gO ?_|refine gP ?_|refine VNat.mk _ rfl ?_|refine gV ?_|refine vret_pf rfl ?_|refine vret_take rfl rfl ?_|refine VIdx.mk _ hv ?_|refine VOk.mk (szOk_of rfl hz) ?_|refine VOk.mk (grow_ok (w:=16) (r:=140737488355328) hl8 rfl rfl rfl rfl (by simp only [List.length_cons,List.length_nil]; omega) (by simp only [List.length_cons,List.length_nil]; omega)) ?_|refine gK ?_)
        all_goals (try (conv=>whnf))
        have e:svs ((cs.take (i + 1 + 1)).map (·.1))=svs ((cs.take (i + 1)).map (·.1)) ++ [sv c]:=by
          rw [take_snoc' hc,List.map_append,svs,List.map_append]
          rfl
        have hp8:(sv nm :: svs ((cs.take (i + 1)).map (·.1)) ++ [sv c]).all (pur 8)=true:=by
          rw [List.cons_append,← e,show sv nm :: svs ((cs.take (i + 1 + 1)).map (·.1))=svs (nm :: (cs.take (i + 1 + 1)).map (·.1)) from rfl]
          exact svs_pure _
        refine VAgain.mk _ rfl _ (gc_sh (.cons (sh_box rfl rfl) (.cons (sh_row hp8) .nil)) (.cons (sh_box rfl rfl) (.cons (sh_row hp8) .nil)) rfl rfl rfl rfl rfl) ⟨i + 1 + 1,by omega,by omega,?_⟩
        dsimp only [nmS9,nmV9]
        rw [e]
        rfl
      · have e:sv nm :: svs ((cs.take (i + 1)).map (·.1)) ++ [sv (recF nm)]=svs (nm :: ((cs.take (i + 1)).map (·.1) ++ [recF nm])):=by simp [svs]
        refine vret_pub rfl (mapS_cons (pubV_row rfl (by simp; omega) (by rw [e]; exact svs_pure6 _)) mapS_nil) rfl ?_
        exact ⟨_,by rw [hall (by omega),← e]⟩
  · exact ⟨_,by rw [namesD,if_neg (by assumption)]; rfl⟩
end Go.Proofs.YtehhihdahalfeaaGreatDoor
namespace Go.Proofs.YtehhihdahalfeaaGreatDoor
open Go Go.Am Go.Gw
theorem DcP.parts {d:Dc} {v:PV} (h:DcP d v):∃ (a1 a2:Int) (a3:List UInt8) (a4:Bool) (a5:Nat) (a6:List PV) (a7:Bool) (a8:Nat) (a9:List PV) (b1 b2:Int) (b3:List UInt8) (b4:Bool) (b5:Nat) (b6:List PV) (b7:Bool) (b8:Nat) (b9:List PV) (cb:Bool) (cz:Nat) (cx:List PV),
    v = .ag [iv d.k,iv d.p,sv d.nm,iv a1,iv a2,sv a3,.sl a4 a5 a6,.sl a7 a8 a9,iv b1,iv b2,sv b3,.sl b4 b5 b6,.sl b7 b8 b9,iv d.fx,.sl cb cz cx]∧TmP d.ty (.ag [iv a1,iv a2,sv a3,.sl a4 a5 a6,.sl a7 a8 a9])∧TmP d.vl (.ag [iv b1,iv b2,sv b3,.sl b4 b5 b6,.sl b7 b8 b9])∧(cz=6∨cx=[])∧LosP d.cs cx∧d.cs.length ≤ 1466015503701:=by
  cases h
  exact ⟨_,_,_,_,_,_,_,_,_,_,_,_,_,_,_,_,_,_,_,_,_,rfl,by assumption,by assumption,by assumption,by assumption,by assumption⟩
set_option maxHeartbeats 2000000 in
set_option maxRecDepth 100000 in
theorem sameInts_can (l:List Int) (b b':Bool) (z z':Nat) (hz:z=1∨l=[]) (hz':z'=1∨l=[]) (hl:l.length ≤ 1000000):Pf C1 65 [.sl b z (ints l),.sl b' z' (ints l)] [bv true]:=by
  have hlen:(ints l).length=l.length:=by simp [ints]
  refine run_intro Tryz.func65 rfl rfl rfl ?_
  repeat' ((conv=>whnf);first|refine gT ?_|refine gF ?_|refine VIf.not ?_|refine gA ?_|refine gB ?_|refine VIf.dec (fun h=>?_) (fun h=>?_)|refine gC ?_|refine gD ?_|refine VIf.mk (fun h=>?_) (fun h=>?_)|refine gO ?_|refine gP ?_|refine VNat.mk _ rfl ?_|refine gV ?_|refine vret_pf rfl ?_|refine vret_take rfl rfl ?_|refine gK ?_)
  all_goals (try (conv=>whnf))
  · refine loop_over (G:=Nat) (fun i=>[(5,iv i)]) (fun _=>_) (fun i=>i ≤ l.length) (fun i=>l.length - i) 0 (by omega) rfl rfl ?_
    rintro i hi
    repeat' ((conv=>whnf);first|refine gT ?_|refine gF ?_|refine VIf.not ?_|refine gA ?_|refine gB ?_|refine VIf.dec (fun h=>?_) (fun h=>?_)|refine gC ?_|refine gD ?_|refine VIf.mk (fun h=>?_) (fun h=>?_)|refine gO ?_|refine gP ?_|refine VNat.mk _ rfl ?_|refine gV ?_|refine vret_pf rfl ?_|refine vret_take rfl rfl ?_|refine gK ?_)
    all_goals (try (conv=>whnf))
    · have hi':i < l.length:=by omega
      obtain ⟨lc,hlc⟩:∃ lc,l[i]? = some lc:=⟨_,List.getElem?_eq_getElem hi'⟩
      have hv:(ints l)[i]? = some (iv lc):=by simp [ints,hlc]
      have hzz:z=1∨ints l=[]:=by
        rcases hz with e|e
        · exact .inl e
        · subst e; simp at hlc
      have hzz':z'=1∨ints l=[]:=by
        rcases hz' with e|e
        · exact .inl e
        · subst e; simp at hlc
      repeat' ((conv=>whnf);first|refine gT ?_|refine gF ?_|refine VIf.not ?_|refine gA ?_|refine gB ?_|refine VIf.dec (fun h=>?_) (fun h=>?_)|refine gC ?_|refine gD ?_|refine VIf.mk (fun h=>?_) (fun h=>?_)|refine gO ?_|refine gP ?_|refine VNat.mk _ rfl ?_|refine gV ?_|refine vret_pf rfl ?_|refine vret_take rfl rfl ?_|refine VIdx.mk _ hv ?_|refine VOk.mk (szOk_of rfl hzz) ?_|refine VOk.mk (szOk_of rfl hzz') ?_|refine gK ?_)
      all_goals (try (conv=>whnf))
      · exact VAgain.mk _ rfl _ (gc_take rfl rfl rfl) ⟨i + 1,hi',by omega,rfl⟩
      · exact absurd rfl h
  · exact absurd rfl h
set_option maxHeartbeats 2000000 in
set_option maxRecDepth 100000 in
theorem sameDecl_can (d:Dc) (v w:PV) (h:DcP d v) (h':DcP d w):Pf C1 30 [v,w] [bv true]:=by
  obtain ⟨a1,a2,a3,a4,a5,a6,a7,a8,a9,b1,b2,b3,b4,b5,b6,b7,b8,b9,cb,cz,cx,rfl,ht,hv,hz,hxs,hlen⟩:=h.parts
  obtain ⟨a1',a2',a3',a4',a5',a6',a7',a8',a9',b1',b2',b3',b4',b5',b6',b7',b8',b9',cb',cz',cx',rfl,ht',hv',hz',hxs',hlen'⟩:=h'.parts
  have hcl:=hxs.len
  have hcl':=hxs'.len
  have s1:=SameTerm_can d.ty _ ht d.ty _ ht'
  have s2:=SameTerm_can d.vl _ hv d.vl _ hv'
  rw [eqTm_self] at s1 s2
  refine run_intro Tryz.func30 rfl rfl rfl ?_
  repeat' ((conv=>whnf);first|refine gT ?_|refine gF ?_|refine VIf.not ?_|refine gA ?_|refine gB ?_|refine VIf.dec (fun h=>?_) (fun h=>?_)|refine gC ?_|refine gD ?_|refine VIf.mk (fun h=>?_) (fun h=>?_)|refine gO ?_|refine gP ?_|refine VNat.mk _ rfl ?_|refine gV ?_|refine vret_pf rfl ?_|refine vret_take rfl rfl ?_|refine vcall_pf s1 rfl rfl ?_|refine vcall_pf s2 rfl rfl ?_|refine vres_str ?_|refine gK ?_)
  all_goals (try (conv=>whnf))
  · refine loop_over (G:=Nat) (fun i=>[(5,iv i)]) (fun _=>_) (fun i=>i ≤ d.cs.length) (fun i=>d.cs.length - i) 0 (by omega) rfl rfl ?_
    rintro i hi
    repeat' ((conv=>whnf);first|refine gT ?_|refine gF ?_|refine VIf.not ?_|refine gA ?_|refine gB ?_|refine VIf.dec (fun h=>?_) (fun h=>?_)|refine gC ?_|refine gD ?_|refine VIf.mk (fun h=>?_) (fun h=>?_)|refine gO ?_|refine gP ?_|refine VNat.mk _ rfl ?_|refine gV ?_|refine vret_pf rfl ?_|refine vret_take rfl rfl ?_|refine gK ?_)
    all_goals (try (conv=>whnf))
    · have hi':i < d.cs.length:=by omega
      obtain ⟨lc,hlc⟩:∃ lc,d.cs[i]? = some lc:=⟨_,List.getElem?_eq_getElem hi'⟩
      obtain ⟨v,hv,hl⟩:=hxs.at hlc
      obtain ⟨w,hw,hm⟩:=hxs'.at hlc
      obtain ⟨s0,k1,n1,s1',b'',z'',xs'',c'',y'',ys'',t',rfl,rfl,hT,hsl⟩:=hl.open
      obtain ⟨s0',k1',n1',s1'',b3'',z3'',xs3'',c3'',y3'',ys3'',t'',e,rfl,hT',hsl'⟩:=hm.open
      obtain ⟨rfl,rfl⟩:=Prod.mk.inj e
      have s3:=SameTerm_can t' _ hT t' _ hT'
      rw [eqTm_self] at s3
      repeat' ((conv=>whnf);first|refine gT ?_|refine gF ?_|refine VIf.not ?_|refine gA ?_|refine gB ?_|refine VIf.dec (fun h=>?_) (fun h=>?_)|refine gC ?_|refine gD ?_|refine VIf.mk (fun h=>?_) (fun h=>?_)|refine gO ?_|refine gP ?_|refine VNat.mk _ rfl ?_|refine gV ?_|refine vret_pf rfl ?_|refine vret_take rfl rfl ?_|refine VIdx.mk _ hv ?_|refine VIdx.mk _ hw ?_|refine VOk.mk (szOk_of rfl hz) ?_|refine VOk.mk (szOk_of rfl hz') ?_|refine vcall_pf s3 rfl rfl ?_|refine finds_pf s3 (fun _=>?_)|refine vres_str ?_|refine gK ?_)
      all_goals (try (conv=>whnf))
      · exact VAgain.mk _ rfl _ (gc_take rfl rfl rfl) ⟨i + 1,hi',by omega,rfl⟩
      · exact absurd h (by simp)
  all_goals (exfalso; first|omega|exact absurd h (by simp))
end Go.Proofs.YtehhihdahalfeaaGreatDoor
namespace Go.Proofs.YtehhihdahalfeaaGreatDoor
open Go Go.Am Go.Gw
mutual
theorem st18_eq (nm:List UInt8):∀ t:Tm,st18 nm t=decide (nm ∈ constsT t)
  | .mk k n s ls ts=>by
    rw [st18,constsT,st18s_eq nm ts]
    by_cases hk:k=3
    · by_cases hs:s=nm
      · subst hs; simp [hk]
      · have:¬ nm=s:=fun e=>hs e.symm
        simp [hk,hs,this]
    · simp [hk]
theorem st18s_eq (nm:List UInt8):∀ ts:List Tm,st18s nm ts=decide (nm ∈ constsTs ts)
  |[]=>by simp [st18s,constsTs]
  |t :: r=>by
    rw [st18s,constsTs,st18_eq nm t,st18s_eq nm r]
    simp
end
theorem stF_18 {nm:List UInt8} {t:Tm} (h:anyT t=true):stF nm t=st18 nm t:=by
  rw [st18_eq,stF,ConstsF,if_pos h]
  simp only [nameSortF_mem]
theorem CoP.parts {c:Co} {v:PV} (h:CoP c v):∃ b z xs b' z' xs' b'' z'',v = .ag [.sl b z xs,.sl b' z' xs',.sl b'' z'' (ints c.ar)]∧(z=5∨xs=[])∧TmsP c.fs xs∧(z'=5∨xs'=[])∧TmsP c.tg xs'∧(z''=1∨c.ar=[]):=h
set_option maxHeartbeats 4000000 in
set_option maxRecDepth 100000 in
theorem same18_can (idx:Int) (l:Lv) (cs:List Co) (v w u:PV) (h:FamP idx l cs v) (h':FamP idx l cs w) (hu:LvP l u) (hb:cs.length ≤ 1000000) (hbs:∀ c ∈ cs,c.ar.length ≤ 1000000∧c.fs.length ≤ 1000000∧c.tg.length ≤ 1000000):Pf C1 27 [v,w] [bv true]:=by
  have hlv:=encL_ok l u hu
  have hsl:=SameLevel_can l _ hlv l _ hlv
  rw [(eqLv_eq _ _).2 rfl] at hsl
  obtain ⟨b,z,xs,rfl,hz,hcs⟩:=h
  obtain ⟨b',z',xs',rfl,hz',hcs'⟩:=h'
  have hlen:=hcs.len
  have hlen':=hcs'.len
  obtain ⟨k,n,ls,b2,z2,x2,rfl,hE,hz2,hx2,-⟩:=hlv.open
  rw [hE] at hsl ⊢
  refine run_intro Tryz.func27 rfl rfl rfl ?_
  repeat' ((conv=>whnf);first|refine gT ?_|refine gF ?_|refine VIf.not ?_|refine gA ?_|refine gB ?_|refine VIf.dec (fun h=>?_) (fun h=>?_)|refine gC ?_|refine gD ?_|refine VIf.mk (fun h=>?_) (fun h=>?_)|refine gO ?_|refine gP ?_|refine VNat.mk _ rfl ?_|refine gV ?_|refine vret_pf rfl ?_|refine vret_take rfl rfl ?_|refine vcall_pf hsl rfl rfl ?_|refine gK ?_)
  all_goals (try (conv=>whnf))
  · refine loop_over (G:=Nat) (fun i=>[(5,iv i)]) (fun _=>_) (fun i=>i ≤ cs.length) (fun i=>cs.length - i) 0 (by omega) rfl rfl ?_
    rintro i hi
    repeat' ((conv=>whnf);first|refine gT ?_|refine gF ?_|refine VIf.not ?_|refine gA ?_|refine gB ?_|refine VIf.dec (fun h=>?_) (fun h=>?_)|refine gC ?_|refine gD ?_|refine VIf.mk (fun h=>?_) (fun h=>?_)|refine gO ?_|refine gP ?_|refine VNat.mk _ rfl ?_|refine gV ?_|refine vret_pf rfl ?_|refine vret_take rfl rfl ?_|refine gK ?_)
    all_goals (try (conv=>whnf))
    · have hi':i < cs.length:=by omega
      obtain ⟨lc,hlc⟩:∃ lc,cs[i]? = some lc:=⟨_,List.getElem?_eq_getElem hi'⟩
      obtain ⟨v,hv,hl⟩:=hcs.at hlc
      obtain ⟨w,hw,hm⟩:=hcs'.at hlc
      obtain ⟨hb1,hb2,hb3⟩:=hbs lc (List.mem_of_getElem? hlc)
      obtain ⟨c1,c2,c3,c4,c5,c6,c7,c8,rfl,q1,q2,q3,q4,q5⟩:=hl.parts
      obtain ⟨d1,d2,d3,d4,d5,d6,d7,d8,rfl,r1,r2,r3,r4,r5⟩:=hm.parts
      have hsi:=sameInts_can lc.ar c7 d7 c8 d8 q5 r5 hb1
      have l1:=q2.len
      have l2:=r2.len
      have l3:=q4.len
      have l4:=r4.len
      repeat' ((conv=>whnf);first|refine gT ?_|refine gF ?_|refine VIf.not ?_|refine gA ?_|refine gB ?_|refine VIf.dec (fun h=>?_) (fun h=>?_)|refine gC ?_|refine gD ?_|refine VIf.mk (fun h=>?_) (fun h=>?_)|refine gO ?_|refine gP ?_|refine VNat.mk _ rfl ?_|refine gV ?_|refine vret_pf rfl ?_|refine vret_take rfl rfl ?_|refine VIdx.mk _ hv ?_|refine VIdx.mk _ hw ?_|refine VOk.mk (szOk_of rfl hz) ?_|refine VOk.mk (szOk_of rfl hz') ?_|refine vcall_pf hsi rfl rfl ?_|refine finds_pf hsi (fun _=>?_)|refine gK ?_)
      all_goals (try (conv=>whnf))
      · refine loop_over (G:=Nat) (fun j=>[(8,iv j)]) (fun _=>_) (fun j=>j ≤ lc.fs.length) (fun j=>lc.fs.length - j) 0 (by omega) rfl rfl ?_
        rintro j hj
        repeat' ((conv=>whnf);first|refine gT ?_|refine gF ?_|refine VIf.not ?_|refine gA ?_|refine gB ?_|refine VIf.dec (fun h=>?_) (fun h=>?_)|refine gC ?_|refine gD ?_|refine VIf.mk (fun h=>?_) (fun h=>?_)|refine gO ?_|refine gP ?_|refine VNat.mk _ rfl ?_|refine gV ?_|refine vret_pf rfl ?_|refine vret_take rfl rfl ?_|refine gK ?_)
        all_goals (try (conv=>whnf))
        · have hj':j < lc.fs.length:=by omega
          obtain ⟨t,ht⟩:∃ t,lc.fs[j]? = some t:=⟨_,List.getElem?_eq_getElem hj'⟩
          obtain ⟨v1,hv1,hT1⟩:=q2.at ht
          obtain ⟨w1,hw1,hT2⟩:=r2.at ht
          have hst:=SameTerm_can t _ hT1 t _ hT2
          rw [eqTm_self] at hst
          obtain ⟨e1,e2,e3,e4,e5,e6,e7,e8,e9,e10,e11,rfl,rfl,-⟩:=hT1.open
          obtain ⟨f1,f2,f3,f4,f5,f6,f7,f8,f9,f10,f11,-,rfl,-⟩:=hT2.open
          repeat' ((conv=>whnf);first|refine gT ?_|refine gF ?_|refine VIf.not ?_|refine gA ?_|refine gB ?_|refine VIf.dec (fun h=>?_) (fun h=>?_)|refine gC ?_|refine gD ?_|refine VIf.mk (fun h=>?_) (fun h=>?_)|refine gO ?_|refine gP ?_|refine VNat.mk _ rfl ?_|refine gV ?_|refine vret_pf rfl ?_|refine vret_take rfl rfl ?_|refine VIdx.mk _ hv1 ?_|refine VIdx.mk _ hw1 ?_|refine VOk.mk (szOk_of rfl q1) ?_|refine VOk.mk (szOk_of rfl r1) ?_|refine vcall_pf hst rfl rfl ?_|refine finds_pf hst (fun _=>?_)|refine gK ?_)
          all_goals (try (conv=>whnf))
          exact VAgain.mk _ rfl _ (gc_take rfl rfl rfl) ⟨j + 1,hj',by omega,rfl⟩
        · refine loop_over (G:=Nat) (fun j=>[(9,iv j)]) (fun _=>_) (fun j=>j ≤ lc.tg.length) (fun j=>lc.tg.length - j) 0 (by omega) rfl rfl ?_
          rintro j hj
          repeat' ((conv=>whnf);first|refine gT ?_|refine gF ?_|refine VIf.not ?_|refine gA ?_|refine gB ?_|refine VIf.dec (fun h=>?_) (fun h=>?_)|refine gC ?_|refine gD ?_|refine VIf.mk (fun h=>?_) (fun h=>?_)|refine gO ?_|refine gP ?_|refine VNat.mk _ rfl ?_|refine gV ?_|refine vret_pf rfl ?_|refine vret_take rfl rfl ?_|refine gK ?_)
          all_goals (try (conv=>whnf))
          · have hj':j < lc.tg.length:=by omega
            obtain ⟨t,ht⟩:∃ t,lc.tg[j]? = some t:=⟨_,List.getElem?_eq_getElem hj'⟩
            obtain ⟨v1,hv1,hT1⟩:=q4.at ht
            obtain ⟨w1,hw1,hT2⟩:=r4.at ht
            have hst:=SameTerm_can t _ hT1 t _ hT2
            rw [eqTm_self] at hst
            obtain ⟨e1,e2,e3,e4,e5,e6,e7,e8,e9,e10,e11,rfl,rfl,-⟩:=hT1.open
            obtain ⟨f1,f2,f3,f4,f5,f6,f7,f8,f9,f10,f11,-,rfl,-⟩:=hT2.open
            repeat' ((conv=>whnf);first|refine gT ?_|refine gF ?_|refine VIf.not ?_|refine gA ?_|refine gB ?_|refine VIf.dec (fun h=>?_) (fun h=>?_)|refine gC ?_|refine gD ?_|refine VIf.mk (fun h=>?_) (fun h=>?_)|refine gO ?_|refine gP ?_|refine VNat.mk _ rfl ?_|refine gV ?_|refine vret_pf rfl ?_|refine vret_take rfl rfl ?_|refine VIdx.mk _ hv1 ?_|refine VIdx.mk _ hw1 ?_|refine VOk.mk (szOk_of rfl q3) ?_|refine VOk.mk (szOk_of rfl r3) ?_|refine vcall_pf hst rfl rfl ?_|refine finds_pf hst (fun _=>?_)|refine gK ?_)
            all_goals (try (conv=>whnf))
            exact VAgain.mk _ rfl _ (gc_take rfl rfl rfl) ⟨j + 1,hj',by omega,rfl⟩
          · exact VAgain.mk _ rfl _ (gc_take rfl rfl rfl) ⟨i + 1,hi',by omega,rfl⟩
      all_goals exact absurd h (by first|omega|simp)
  all_goals exact absurd h (by first|omega|simp)
end Go.Proofs.YtehhihdahalfeaaGreatDoor
namespace Go.Proofs.YtehhihdahalfeaaGreatDoor
open Go Go.Am Go.Gw
def armsV (d:Dc) (t:Tm) (deep:Int):List PV :=
  if ¬ frontD d=0∨deep < d.fx∨64 < deep∨rightT t d.p deep=false then [iv 0,iv 10]
  else if (armsF d.nm (selfD d) d.fx (idxD d) deep t).2=true then [iv (armsF d.nm (selfD d) d.fx (idxD d) deep t).1,iv 0] else [iv 0,iv 21]
set_option maxHeartbeats 1000000 in
set_option maxRecDepth 100000 in
theorem ArmsD_can (d:Dc) (v:PV) (h:DcP d v) (hcs:d.cs.length ≤ 1000000) (t:Tm) (w:PV) (hT:TmP t w) (deep:Int):Pf C1 25 [v,w,iv deep] (armsV d t deep):=by
  obtain ⟨M,hM,hb⟩:=begin_can d v h hcs
  have hrt:=termRight_can t w hT d.p deep
  obtain ⟨a1,a2,a3,a4,a5,a6,a7,a8,a9,b1,b2,b3,b4,b5,b6,b7,b8,b9,cb,cz,cx,rfl,hty,hvl,hz,hxs,hlen⟩:=h.parts
  obtain ⟨k0,nn0,s0,ls0,ts0,b0,z0,xs0,c0,y0,ys0,rfl,rfl,-⟩:=hT.open
  by_cases hf:frontD d=0
  · have hok:=frontD_ok hf
    have hfd:=(formedD hok.1).2 hok.2.1
    rw [beginV,if_pos hf,famV] at hb
    obtain ⟨r1,r2,r3,r4,r5,hr5⟩:=encL_open (lvD d)
    rw [hr5] at hb
    have hMk:=hM hf
    by_cases hc:deep < d.fx∨64 < deep∨rightT (.mk k0 nn0 s0 ls0 ts0) d.p deep=false
    · rw [armsV,if_pos (Or.inr hc)]
      obtain ⟨kq,e1,e2,e3,e4,e5,e6,e7,e8,e9,e10,e11,j1,j2,js,j3,j4,j5,j6,j7,j8,-⟩:=hMk
      refine run_intro Tryz.func25 rfl rfl rfl ?_
      repeat' ((conv=>whnf);first|refine gT ?_|refine gF ?_|refine VIf.not ?_|refine gA ?_|refine gB ?_|refine VIf.dec (fun h=>?_) (fun h=>?_)|refine gC ?_|refine gD ?_|refine VIf.mk (fun h=>?_) (fun h=>?_)|refine gO ?_|refine gP ?_|refine VNat.mk _ rfl ?_|refine gV ?_|refine vret_pf rfl ?_|refine vret_take rfl rfl ?_|refine vcall_pf hb rfl rfl ?_|refine vcall_pf hrt rfl rfl ?_|refine finds_pf hb (fun _=>?_)|refine finds_pf hrt (fun _=>?_)|refine gK ?_)
      all_goals (try (conv=>whnf))
      all_goals first|rfl|(exfalso; rcases hc with hc|hc|hc <;> simp_all)|(exfalso; omega)
    · have hr:rightT (.mk k0 nn0 s0 ls0 ts0) d.p deep=true:=by
        cases e:rightT (.mk k0 nn0 s0 ls0 ts0) d.p deep with
        |true=>rfl
        |false=>exact absurd (.inr (.inr e)) hc
      rw [hr] at hrt
      have ha:=arms_can (hM hf) hfd.1 ⟨by unfold idxD; omega,by unfold idxD; omega⟩ deep ⟨by omega,by omega⟩ (.mk k0 nn0 s0 ls0 ts0) _ hT (rightT_any (p:=d.p) (kk:=deep) hr)
      rw [armsV,if_neg (fun e=>e.elim (fun e=>e hf) hc)]
      generalize armsF d.nm (selfD d) d.fx (idxD d) deep (.mk k0 nn0 s0 ls0 ts0)=q at ha
      obtain ⟨n,ok⟩:=q
      obtain ⟨kq,e1,e2,e3,e4,e5,e6,e7,e8,e9,e10,e11,j1,j2,js,j3,j4,j5,j6,j7,j8,-⟩:=hMk
      cases ok
      all_goals
        refine run_intro Tryz.func25 rfl rfl rfl ?_
        repeat' ((conv=>whnf);first|refine gT ?_|refine gF ?_|refine VIf.not ?_|refine gA ?_|refine gB ?_|refine VIf.dec (fun h=>?_) (fun h=>?_)|refine gC ?_|refine gD ?_|refine VIf.mk (fun h=>?_) (fun h=>?_)|refine gO ?_|refine gP ?_|refine VNat.mk _ rfl ?_|refine gV ?_|refine vret_pf rfl ?_|refine vret_take rfl rfl ?_|refine vcall_pf hb rfl rfl ?_|refine vcall_pf hrt rfl rfl ?_|refine vcall_pf ha rfl rfl ?_|refine finds_pf hb (fun _=>?_)|refine finds_pf hrt (fun _=>?_)|refine finds_pf ha (fun _=>?_)|refine gK ?_)
        all_goals (try (conv=>whnf))
        all_goals first|rfl|(exfalso; omega)
  · rw [beginV,if_neg hf] at hb
    rw [armsV,if_pos (Or.inl hf)]
    generalize frontD d=fd at hb hf
    refine run_intro Tryz.func25 rfl rfl rfl ?_
    repeat' ((conv=>whnf);first|refine gT ?_|refine gF ?_|refine VIf.not ?_|refine gA ?_|refine gB ?_|refine VIf.dec (fun h=>?_) (fun h=>?_)|refine gC ?_|refine gD ?_|refine VIf.mk (fun h=>?_) (fun h=>?_)|refine gO ?_|refine gP ?_|refine VNat.mk _ rfl ?_|refine gV ?_|refine vret_pf rfl ?_|refine vret_take rfl rfl ?_|refine vcall_pf hb rfl rfl ?_|refine finds_pf hb (fun _=>?_)|refine gK ?_)
    all_goals (try (conv=>whnf))
    all_goals first|rfl|(exfalso; omega)
end Go.Proofs.YtehhihdahalfeaaGreatDoor

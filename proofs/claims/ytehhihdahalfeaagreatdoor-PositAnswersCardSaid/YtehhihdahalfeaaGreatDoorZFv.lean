/-
  The law PositAnswers in the plain machine. No statement of the seat.
-/
import Derived.Test.YtehhihdahalfeaaGreatDoorZFu
import Derived.Test.YtehhihdahalfeaaGreatDoorZDi
import Derived.Test.YtehhihdahalfeaaGreatDoorZBe
set_option linter.unusedVariables false
set_option linter.unusedSimpArgs false
set_option linter.unnecessarySimpa false
namespace Go.Proofs.YtehhihdahalfeaaGreatDoor
open Go Go.Am Go.Gw
theorem seqb {x y:Operand} {a c:Bool}:slowBin C4.P .eql 4 x y (bv a) (bv c)=some (bv (a == c)):=by
  cases a <;> cases c <;> kernel_rfl
theorem shapeL_in {nm:List UInt8} {self:Tm} {fx idx:Int}:∀ (cs:List (List UInt8 × Tm)) (l:List Co),shapeL nm self fx idx cs=(0,l)→l.length=cs.length∧∀ co ∈ l,∃ c ∈ cs,ctorF nm self fx idx c.2=(0,co)
  |[],l,h=>by
    simp only [shapeL,Prod.mk.injEq] at h
    obtain ⟨-,rfl⟩:=h
    exact ⟨rfl,fun co h=>by cases h⟩
  |c :: r,l,h=>by
    rw [shapeL] at h
    split at h
    · rename_i h1
      split at h
      · rename_i h2
        injection h with h3 h4
        subst h4
        obtain ⟨q1,q2⟩:=shapeL_in r _ (Prod.ext h2 rfl)
        refine ⟨by simp [q1],fun co hco=>?_⟩
        rcases List.mem_cons.1 hco with rfl|hco
        · exact ⟨c,by simp,Prod.ext h1 rfl⟩
        · obtain ⟨c',p1,p2⟩:=q2 co hco
          exact ⟨c',by simp [p1],p2⟩
      · rename_i h2
        injection h with h3 h4
        exact absurd h3 h2
    · rename_i h1
      injection h with h3 h4
      exact absurd h3 h1
theorem lvD_P {d:Dc} {v:PV} (h:DcP d v) (hf:frontD d=0):∃ u,LvP (lvD d) u:=by
  obtain ⟨o1,-,-,-,-,-,o7⟩:=frontD_ok hf
  obtain ⟨⟨-,hrt⟩,-⟩:=formedD o1
  obtain ⟨-,-,-,hall⟩:=rightT_parts hrt
  obtain ⟨a1,a2,a3,a4,a5,a6,a7,a8,a9,b1,b2,b3,b4,b5,b6,b7,b8,b9,cb,cz,cx,-,hty,-⟩:=h.parts
  rw [show min (0:Int) 1125899906842624=0 by omega] at hall
  obtain ⟨l,hl⟩:=sort_level (piF_body d.ty d.p 0 hall).1 o7
  have hw:=(piF_w d.ty hty.w).1
  unfold lvD
  generalize (piF d.ty).2=B at hl hw
  unfold TmW at hw
  obtain ⟨k,n,s,ls,ts,b,z,xs,c,y,ys,rfl,-,hz,hxs,-⟩:=hw.open
  have hl:ls=[l]:=hl
  subst hl
  obtain ⟨u,-,hu⟩:=hxs.at (by rfl:[l][0]? = some l)
  exact ⟨u,hu⟩
theorem famZ_P:FamP 0 (.mk 0 0 []) [] famZ0:=⟨true,0,[],rfl,.inr rfl,by simp only [CosP]⟩
theorem armsV_open (d:Dc) (t:Tm) (deep:Int):∃ n g,armsV d t deep=[iv n,iv g]:=by
  unfold armsV
  split
  · exact ⟨_,_,rfl⟩
  · split
    · exact ⟨_,_,rfl⟩
    · exact ⟨_,_,rfl⟩
/-- two forms of one family are one, and as great -/
theorem forms_one {d:Dc} {v:PV} (h:DcP d v) (hcs:d.cs.length ≤ 20) {x y:PV} (hx:if shapeE d=0 then FamP (idxD d) (lvD d) (shapeC d) x else x=famZ0) (hy:if shapeE d=0 then FamP (idxD d) (lvD d) (shapeC d) y else y=famZ0) :
    Pf C1 27 [x,y] [bv true]∧∃ b,Pf C1 28 [x] [bv b]∧Pf C1 29 [y] [bv b]:=by
  by_cases he:shapeE d=0
  · rw [if_pos he] at hx hy
    have hf:frontD d=0:=by
      unfold shapeE at he
      split at he
      · assumption
      · exact he
    obtain ⟨u,hu⟩:=lvD_P h hf
    obtain ⟨o1,o2,o3,o4,-,o5,-⟩:=frontD_ok hf
    obtain ⟨⟨-,hrt⟩,hk5⟩:=formedD o1
    obtain ⟨hfx,-,hcsr⟩:=hk5 o2
    obtain ⟨fx,hfn⟩:=Int.eq_ofNat_of_zero_le hfx.1
    have hix:0 ≤ idxD d∧idxD d ≤ 16:=by unfold idxD; omega
    obtain ⟨q1,q2⟩:=shapeL_in (nm:=d.nm) (self:=selfD d) (fx:=d.fx) (idx:=idxD d) d.cs (shapeC d) (Prod.ext (by rw [shapeE,if_pos hf] at he; exact he) rfl)
    have hbs:∀ c ∈ shapeC d,c.ar.length ≤ 1000000∧c.fs.length ≤ 1000000∧c.tg.length ≤ 1000000:=fun c hc=>by
      obtain ⟨c',p1,p2⟩:=q2 c hc
      rw [hfn] at p2
      obtain ⟨-,-,f3,f4,f5,-⟩:=ctor_facts (hcsr c' p1).2 hix.1 p2
      omega
    refine ⟨same18_can _ _ _ x y u hx hy hu (by omega) hbs,_,large_can _ _ _ x u hx hu (by omega),?_⟩
    rw [large_same]
    exact large18_can _ _ _ y u hy hu (by omega)
  · rw [if_neg he] at hx hy
    subst hx hy
    have hu:LvP (.mk 0 0 []) (.ag [iv 0,iv 0,.sl true 0 []]):=⟨_,_,_,rfl,.inr rfl,by simp only [LvsP],by simp⟩
    refine ⟨same18_can _ _ _ _ _ _ famZ_P famZ_P hu (by simp) (fun c hc=>by cases hc),_,large_can _ _ _ _ _ famZ_P hu (by simp),?_⟩
    rw [large_same]
    exact large18_can _ _ _ _ _ famZ_P hu (by simp)
theorem fam_open {d:Dc} {x:PV} (hx:if shapeE d=0 then FamP (idxD d) (lvD d) (shapeC d) x else x=famZ0):∃ i k n b z xs b' z' xs',x = .ag [iv i,iv k,iv n,.sl b z xs,.sl b' z' xs']:=by
  split at hx
  · obtain ⟨b,z,xs,rfl,-⟩:=hx
    obtain ⟨k,n,b',z',xs',he⟩:=encL_open (lvD d)
    rw [he]
    exact ⟨_,_,_,_,_,_,_,_,_,rfl⟩
  · subst hx
    exact ⟨_,_,_,_,_,_,_,_,_,rfl⟩
set_option maxHeartbeats 8000000 in
set_option maxRecDepth 100000 in
theorem PositAnswers_can (d:Dc) (v:PV) (h:DcP d v) (t:Tm) (w:PV) (hT:TmP t w) (deep:Int):Pf C4 4 [v,w,iv deep] [bv true]:=by
  have hal:=up4 rfl alive18_can
  obtain ⟨gb,hgb,hg⟩:=GreatD_can d v h
  replace hg:=up4 rfl hg
  have hnd:=up4 rfl (useNodes_can t w hT 2500 (by omega) (by omega))
  by_cases hgd:gb=true∨2500 < useN t 2500
  · obtain ⟨a1,a2,a3,a4,a5,a6,a7,a8,a9,b1,b2,b3,b4,b5,b6,b7,b8,b9,cb,cz,cx,rfl,-⟩:=h.parts
    obtain ⟨k0,nn0,s0,ls0,ts0,b0,z0,xs0,c0,y0,ys0,rfl,rfl,-⟩:=hT.open
    refine run_intro Tryz.func4 rfl rfl rfl ?_
    repeat' ((conv=>whnf);first|refine gT ?_|refine gF ?_|refine VIf.not ?_|refine gA ?_|refine gB ?_|refine VIf.dec (fun h=>?_) (fun h=>?_)|refine gC ?_|refine gD ?_|refine VIf.mk (fun h=>?_) (fun h=>?_)|refine gO ?_|refine gP ?_|refine VNat.mk _ rfl ?_|refine gV ?_|refine vret_pf rfl ?_|refine vret_take rfl rfl ?_|refine vcall_pf hal rfl rfl ?_|refine vcall_pf hg rfl rfl ?_|refine vcall_pf hnd rfl rfl ?_|refine finds_pf hg (fun _=>?_)|refine finds_pf hnd (fun _=>?_)|refine gK ?_)
    all_goals (try (conv=>whnf))
    all_goals first|rfl|(exfalso; simp_all; done)|(exfalso; rcases hgd with hgd|hgd <;> simp_all; omega)
  · have hg0:gb=false:=by
      cases gb with
      |true=>exact absurd (.inl rfl) hgd
      |false=>rfl
    have hu0:¬ 2500 < useN t 2500:=fun e=>hgd (.inr e)
    have hc20:=hgb hg0
    have hcs:d.cs.length ≤ 1000000:=by omega
    subst hg0
    obtain ⟨u,hu,hcp⟩:=CopyDecl_can d v h hcs
    replace hcp:=up4_3 hcp
    obtain ⟨x,hx,hsh⟩:=Shape_can d u hu hcs
    replace hsh:=up4 rfl hsh
    obtain ⟨y,hy,hsr⟩:=Shape18_can d v h hcs
    have ha:=up4 rfl (ArmsD_can d u hu hcs t w hT deep)
    have hb:=Arms18_can d v h hcs t w hT deep
    obtain ⟨n,g,hng⟩:=armsV_open d t deep
    rw [hng] at ha hb
    have hsd:=up4 rfl (sameDecl_can d u v hu h)
    obtain ⟨hsm,lb,hl1,hl2⟩:=forms_one h hc20 hx hy
    replace hsm:=up4 rfl hsm
    replace hl1:=up4 rfl hl1
    replace hl2:=up4 rfl hl2
    obtain ⟨x1,x2,x3,x4,x5,x6,x7,x8,x9,rfl⟩:=fam_open hx
    obtain ⟨y1,y2,y3,y4,y5,y6,y7,y8,y9,rfl⟩:=fam_open hy
    generalize shapeE d=E at hsh hsr
    obtain ⟨a1,a2,a3,a4,a5,a6,a7,a8,a9,b1,b2,b3,b4,b5,b6,b7,b8,b9,cb,cz,cx,rfl,-⟩:=h.parts
    obtain ⟨e1,e2,e3,e4,e5,e6,e7,e8,e9,f1,f2,f3,f4,f5,f6,f7,f8,f9,db,dz,dx,rfl,-⟩:=hu.parts
    obtain ⟨k0,nn0,s0,ls0,ts0,b0,z0,xs0,c0,y0,ys0,rfl,rfl,-⟩:=hT.open
    refine run_intro Tryz.func4 rfl rfl rfl ?_
    repeat' ((conv=>whnf);first|refine gT ?_|refine gF ?_|refine VIf.not ?_|refine gA ?_|refine gB ?_|refine VIf.dec (fun h=>?_) (fun h=>?_)|refine gC ?_|refine gD ?_|refine VIf.mk (fun h=>?_) (fun h=>?_)|refine gO ?_|refine gP ?_|refine VNat.mk _ rfl ?_|refine gV ?_|refine vret_pf rfl ?_|refine vret_take rfl rfl ?_|refine vcall_pf hal rfl rfl ?_|refine vcall_pf hg rfl rfl ?_|refine vcall_pf hnd rfl rfl ?_|refine vcall_pf hcp rfl rfl ?_|refine vcall_pf hsh rfl rfl ?_|refine vcall_pf hsr rfl rfl ?_|refine vcall_pf ha rfl rfl ?_|refine vcall_pf hb rfl rfl ?_|refine vcall_pf hsm rfl rfl ?_|refine vcall_pf hl1 rfl rfl ?_|refine vcall_pf hl2 rfl rfl ?_|refine vcall_pf hsd rfl rfl ?_|refine finds_pf hsm (fun _=>?_)|refine finds_pf hl1 (fun _=>?_)|refine finds_pf hl2 (fun _=>?_)|refine finds_pf hsd (fun _=>?_)|refine gK ?_)
    all_goals (try (conv=>whnf))
    · refine VRes.mk _ seqb ?_
      rw [beq_self_eq_true]
      conv=>whnf
      repeat' ((conv=>whnf);first|refine gT ?_|refine gF ?_|refine VIf.not ?_|refine gA ?_|refine gB ?_|refine VIf.dec (fun h=>?_) (fun h=>?_)|refine gC ?_|refine gD ?_|refine VIf.mk (fun h=>?_) (fun h=>?_)|refine gO ?_|refine gP ?_|refine VNat.mk _ rfl ?_|refine gV ?_|refine vret_pf rfl ?_|refine vret_take rfl rfl ?_|refine vcall_pf hsd rfl rfl ?_|refine finds_pf hsd (fun _=>?_)|refine gK ?_)
      all_goals (try (conv=>whnf))
      all_goals rfl
    all_goals first
      |rfl
      |exact absurd rfl (by assumption)
end Go.Proofs.YtehhihdahalfeaaGreatDoor

/-
  The document's value of a level (layer 3), in the plain machine. No statement of the seat.
-/
import Derived.Test.YtehhihdahalfeaaGreatDoorZFj
import Derived.Test.YtehhihdahalfeaaGreatDoorZLv
set_option linter.unusedVariables false
set_option linter.unusedSimpArgs false
set_option linter.unnecessarySimpa false
namespace Go.Proofs.YtehhihdahalfeaaGreatDoor
open Go Go.Am Go.Gw
set_option maxHeartbeats 1000000 in
set_option maxRecDepth 100000 in
theorem value3_can (l:Lv) (vs:List Int) (hv4:vs.length=4) (hvb:∀ x ∈ vs,0 ≤ x∧x ≤ 1000) (bb:Bool):∀ v,LvP l v→allF l 4=true→sizeL l ≤ 100000→Pf C1 114 [v,.sl bb 1 (ints vs)] [iv (valF l (clampF vs))]:=by
  induction l using Lv.ind with
  |_ k nn ls ih =>
  intro v h hall hsz
  obtain ⟨_,_,_,b,zz,xs,⟨rfl,rfl,rfl⟩,rfl,hz,hxs,hlen,hbd⟩:=h.open
  have hli:(ints vs).length=4:=by simp [ints,hv4]
  refine run_intro Tryz.func114 rfl rfl rfl ?_
  repeat' ((conv=>whnf);first|refine gT ?_|refine gF ?_|refine VIf.not ?_|refine gA ?_|refine gB ?_|refine VIf.dec (fun h=>?_) (fun h=>?_)|refine gC ?_|refine gD ?_|refine VIf.mk (fun h=>?_) (fun h=>?_)|refine gO ?_|refine gP ?_|refine VNat.mk _ rfl ?_|refine gV ?_|refine vret_pf rfl ?_|refine vret_take rfl rfl ?_|refine gK ?_)
  all_goals (try (conv=>whnf))
  · subst h
    simp [valF,valNode]
  · exfalso
    have hk2:k=2:=by assumption
    have:=all_param hall hk2
    omega
  · have hk2:k=2:=by assumption
    have hp:=all_param hall hk2
    obtain ⟨q,rfl⟩:=Int.eq_ofNat_of_zero_le hp.1
    obtain ⟨x,hx⟩:∃ x,vs[q]? = some x:=⟨_,List.getElem?_eq_getElem (by omega)⟩
    have hxb:=hvb x (List.mem_of_getElem? hx)
    have hv:(ints vs)[q]? = some (iv x):=by simp [ints,hx]
    subst hk2
    have hc:clampF vs q=x:=by
      unfold clampF
      rw [Int.toNat_natCast,hx]
      dsimp only
      omega
    rw [valF_param,hc]
    repeat' ((conv=>whnf);first|refine gT ?_|refine gF ?_|refine VIf.not ?_|refine gA ?_|refine gB ?_|refine VIf.dec (fun h=>?_) (fun h=>?_)|refine gC ?_|refine gD ?_|refine VIf.mk (fun h=>?_) (fun h=>?_)|refine gO ?_|refine gP ?_|refine VNat.mk _ rfl ?_|refine gV ?_|refine vret_pf rfl ?_|refine vret_take rfl rfl ?_|refine VNat.mk q rfl ?_|refine VIdx.mk _ hv ?_|refine VOk.mk (szOk_of rfl (.inl rfl)) ?_|refine gK ?_)
    all_goals (try (conv=>whnf))
    all_goals first|(exfalso; omega)|(simp; omega)|trace_state
  · have hk3:k=3:=h
    obtain ⟨x,rfl⟩:=all_succ hall h
    have hax:=all_arg hall (i:=0) rfl
    have hsx:=size_arg hsz (i:=0) rfl
    obtain ⟨v,hv,hl⟩:=hxs.at (i:=0) rfl
    have hr:=ih x (by simp) v hl hax hsx
    have hbx:=valF_bound x (clampF vs) hax (fun i _ _=>clampF_bound vs i)
    obtain ⟨k1,n1,l1,b1,z1,x1,rfl,rfl,hz1',hxs1,hlen1,hbd1⟩:=hl.open
    refine VIdx.mk _ hv (VOk.mk (szOk_of rfl hz) ?_)
    repeat' ((conv=>whnf);first|refine gT ?_|refine gF ?_|refine VIf.not ?_|refine gA ?_|refine gB ?_|refine VIf.dec (fun h=>?_) (fun h=>?_)|refine gC ?_|refine gD ?_|refine VIf.mk (fun h=>?_) (fun h=>?_)|refine gO ?_|refine gP ?_|refine VNat.mk _ rfl ?_|refine gV ?_|refine vret_pf rfl ?_|refine vret_take rfl rfl ?_|refine vcall_pf hr rfl rfl ?_|refine finds_pf hr (fun _=>?_)|refine gK ?_)
    all_goals (try (conv=>whnf))
    subst hk3
    rw [valF_mk1]
  · have hk3:¬ k=3:=h
    have k1:¬ k=1:=by assumption
    have k2:¬ k=2:=by assumption
    obtain ⟨x,y,rfl⟩:=all_two hall k1 k2 hk3
    have hax:=all_arg hall (i:=0) rfl
    have hsx:=size_arg hsz (i:=0) rfl
    have hay:=all_arg hall (i:=1) rfl
    have hsy:=size_arg hsz (i:=1) rfl
    obtain ⟨v,hv,hl⟩:=hxs.at (i:=0) rfl
    obtain ⟨w,hw,hm⟩:=hxs.at (i:=1) rfl
    have hrx:=ih x (by simp) v hl hax hsx
    have hry:=ih y (by simp) w hm hay hsy
    obtain ⟨k1',n1,l1,b1,z1,x1,rfl,rfl,hz1',hxs1,hlen1,hbd1⟩:=hl.open
    obtain ⟨k2',n2,l2,b2,z2,x2,rfl,rfl,hz2',hxs2,hlen2,hbd2⟩:=hm.open
    rw [valF_mk2 k1 k2 hk3]
    refine VIdx.mk _ hw (VOk.mk (szOk_of rfl hz) ?_)
    repeat' ((conv=>whnf);first|refine gT ?_|refine gF ?_|refine VIf.not ?_|refine gA ?_|refine gB ?_|refine VIf.dec (fun h=>?_) (fun h=>?_)|refine gC ?_|refine gD ?_|refine VIf.mk (fun h=>?_) (fun h=>?_)|refine gO ?_|refine gP ?_|refine VNat.mk _ rfl ?_|refine gV ?_|refine vret_pf rfl ?_|refine vret_take rfl rfl ?_|refine VIdx.mk _ hv ?_|refine VOk.mk (szOk_of rfl hz) ?_|refine vcall_pf hry rfl rfl ?_|refine finds_pf hry (fun _=>?_)|refine vcall_pf hrx rfl rfl ?_|refine finds_pf hrx (fun _=>?_)|refine gK ?_)
    all_goals (try (conv=>whnf))
    · rw [if_pos ⟨by assumption,by assumption⟩]
    · have hn:¬ (k=5∧valF (.mk k2' n2 l2) (clampF vs)=0):=fun e=>by first|exact h e.1|exact h e.2
      rw [if_neg hn,← mx_max]
      rfl
    · have hn:¬ (k=5∧valF (.mk k2' n2 l2) (clampF vs)=0):=fun e=>by first|exact h e.1|exact h e.2
      rw [if_neg hn,← mx_max]
      rfl
end Go.Proofs.YtehhihdahalfeaaGreatDoor
namespace Go.Proofs.YtehhihdahalfeaaGreatDoor
open Go Go.Am Go.Gw
theorem pts_bd:∀ i,0 ≤ pts i∧pts i ≤ 1000
  |0=>by decide
  |1=>by decide
  |2=>by decide
  |n + 3=>by simp [pts]
theorem pt_bd (i j k m:Nat):∀ q ∈ pt i j k m,0 ≤ q∧q ≤ 1000:=fun q hq=>by
  simp only [pt,List.mem_cons,List.not_mem_nil,or_false] at hq
  rcases hq with rfl|rfl|rfl|rfl <;> exact pts_bd _
set_option maxRecDepth 100000 in
theorem steps_can:Pf C1 113 [] [.sl true 1 (ints [0,1,1000])]:=by
  refine run_intro Tryz.func113 rfl rfl rfl ?_
  repeat' ((conv=>whnf);first|refine gT ?_|refine gF ?_|refine VIf.not ?_|refine gA ?_|refine gB ?_|refine VIf.dec (fun h=>?_) (fun h=>?_)|refine gC ?_|refine gD ?_|refine VIf.mk (fun h=>?_) (fun h=>?_)|refine gO ?_|refine gP ?_|refine VNat.mk _ rfl ?_|refine gV ?_|refine vret_pf rfl ?_|refine vret_take rfl rfl ?_|refine gK ?_)
  all_goals (try (conv=>whnf))
  rfl
set_option maxHeartbeats 2000000 in
set_option maxRecDepth 100000 in
theorem leq3_can (x y:Lv) (v w:PV) (hx:LvP x v) (hy:LvP y w):Pf C1 67 [v,w] [bv (leqR x y)]:=by
  have h1:=rRight_can x v hx 4
  have h2:=rRight_can y w hy 4
  have hs:=steps_can
  obtain ⟨k,n,ls,b,z,xs,hxe,rfl,hz,hxs,hlen,hbd⟩:=hx.open
  obtain ⟨k',n',ls',b',z',xs',hye,rfl,hz',hxs',hlen',hbd'⟩:=hy.open
  refine run_intro Tryz.func67 rfl rfl rfl ?_
  repeat' ((conv=>whnf);first|refine gT ?_|refine gF ?_|refine VIf.not ?_|refine gA ?_|refine gB ?_|refine VIf.dec (fun h=>?_) (fun h=>?_)|refine gC ?_|refine gD ?_|refine VIf.mk (fun h=>?_) (fun h=>?_)|refine gO ?_|refine gP ?_|refine VNat.mk _ rfl ?_|refine gV ?_|refine vret_pf rfl ?_|refine vret_take rfl rfl ?_|refine vcall_pf h1 rfl rfl ?_|refine vcall_pf h2 rfl rfl ?_|refine vcall_pf hs rfl rfl ?_|refine finds_pf hs (fun _=>?_)|refine gK ?_)
  all_goals (try (conv=>whnf))
  · have e2:rightF y 4=true:=h
    have e1:rightF x 4=true:=by assumption
    have hF:leqR x y=all3 3 fun i=>all3 3 fun j=>all3 3 fun k=>all3 3 fun m=>leAt x y i j k m:=by rw [leqR,e1,e2]; rfl
    refine loop_over (G:=Nat) (fun q=>[(6,iv q)]) (fun _=>_) (fun q=>q ≤ 3∧all3 q (fun i=>all3 3 fun j=>all3 3 fun k=>all3 3 fun m=>leAt x y i j k m)=true) (fun q=>3 - q) 0 ⟨by omega,rfl⟩ rfl rfl ?_
    rintro i ⟨hi,hai⟩
    repeat' ((conv=>whnf);first|refine gT ?_|refine gF ?_|refine VIf.not ?_|refine gA ?_|refine gB ?_|refine VIf.dec (fun h=>?_) (fun h=>?_)|refine gC ?_|refine gD ?_|refine VIf.mk (fun h=>?_) (fun h=>?_)|refine gO ?_|refine gP ?_|refine VNat.mk _ rfl ?_|refine gV ?_|refine vret_pf rfl ?_|refine vret_take rfl rfl ?_|refine gK ?_)
    all_goals (try (conv=>whnf))
    · have hli:i < 3:=by have h3:=h; simp [ints] at h3; omega
      refine loop_over (G:=Nat) (fun q=>[(7,iv q)]) (fun _=>_) (fun q=>q ≤ 3∧all3 q (fun j=>all3 3 fun k=>all3 3 fun m=>leAt x y i j k m)=true) (fun q=>3 - q) 0 ⟨by omega,rfl⟩ rfl rfl ?_
      rintro j ⟨hj,haj⟩
      repeat' ((conv=>whnf);first|refine gT ?_|refine gF ?_|refine VIf.not ?_|refine gA ?_|refine gB ?_|refine VIf.dec (fun h=>?_) (fun h=>?_)|refine gC ?_|refine gD ?_|refine VIf.mk (fun h=>?_) (fun h=>?_)|refine gO ?_|refine gP ?_|refine VNat.mk _ rfl ?_|refine gV ?_|refine vret_pf rfl ?_|refine vret_take rfl rfl ?_|refine gK ?_)
      all_goals (try (conv=>whnf))
      · have hlj:j < 3:=by have h3:=h; simp [ints] at h3; omega
        refine loop_over (G:=Nat) (fun q=>[(8,iv q)]) (fun _=>_) (fun q=>q ≤ 3∧all3 q (fun k=>all3 3 fun m=>leAt x y i j k m)=true) (fun q=>3 - q) 0 ⟨by omega,rfl⟩ rfl rfl ?_
        rintro k ⟨hk,hak⟩
        repeat' ((conv=>whnf);first|refine gT ?_|refine gF ?_|refine VIf.not ?_|refine gA ?_|refine gB ?_|refine VIf.dec (fun h=>?_) (fun h=>?_)|refine gC ?_|refine gD ?_|refine VIf.mk (fun h=>?_) (fun h=>?_)|refine gO ?_|refine gP ?_|refine VNat.mk _ rfl ?_|refine gV ?_|refine vret_pf rfl ?_|refine vret_take rfl rfl ?_|refine gK ?_)
        all_goals (try (conv=>whnf))
        · have hlk:k < 3:=by have h3:=h; simp [ints] at h3; omega
          refine loop_over (G:=Nat) (fun q=>[(9,iv q)]) (fun _=>_) (fun q=>q ≤ 3∧all3 q (fun m=>leAt x y i j k m)=true) (fun q=>3 - q) 0 ⟨by omega,rfl⟩ rfl rfl ?_
          rintro m ⟨hm,ham⟩
          have hst:∀ q,q < 3→(ints [0,1,1000])[q]? = some (iv (pts q)):=fun q hq=>by
            match q,hq with
            |0,_=>rfl
            |1,_=>rfl
            |2,_=>rfl
          have hstm:((m:Int) < ((ints [0,1,1000]).length:Int))→(ints [0,1,1000])[m]? = some (iv (pts m)):=fun h3=>hst m (by simp [ints] at h3; omega)
          have hp4:∀ q ∈ pt i j k m,0 ≤ q∧q ≤ 1000:=pt_bd i j k m
          have hvx:=value3_can x (pt i j k m) rfl hp4 true _ hx (right_all e1) (right_size e1)
          have hvy:=value3_can y (pt i j k m) rfl hp4 true _ hy (right_all e2) (right_size e2)
          repeat' ((conv=>whnf);first|refine gT ?_|refine gF ?_|refine VIf.not ?_|refine gA ?_|refine gB ?_|refine VIf.dec (fun h=>?_) (fun h=>?_)|refine gC ?_|refine gD ?_|refine VIf.mk (fun h=>?_) (fun h=>?_)|refine gO ?_|refine gP ?_|refine VNat.mk _ rfl ?_|refine gV ?_|refine vret_pf rfl ?_|refine vret_take rfl rfl ?_|refine VIdx.mk _ (hst i hli) ?_|refine VIdx.mk _ (hst j hlj) ?_|refine VIdx.mk _ (hst k hlk) ?_|refine VIdx.mk _ (hstm (by assumption)) ?_|refine vcall_pf hvx rfl rfl ?_|refine finds_pf hvx (fun _=>?_)|refine vcall_pf hvy rfl rfl ?_|refine finds_pf hvy (fun _=>?_)|refine gK ?_)
          all_goals (try (conv=>whnf))
          · have h3:(m:Int) < ((ints [0,1,1000]).length:Int):=by assumption
            have hm3:m < 3:=by simp [ints] at h3; omega
            have hle:leAt x y i j k m=false:=by rw [leAt]; exact decide_eq_false (by omega)
            rw [hF,all3_false hli (all3_false hlj (all3_false hlk (all3_false hm3 hle)))]
          · have h3:(m:Int) < ((ints [0,1,1000]).length:Int):=by assumption
            have hm3:m < 3:=by simp [ints] at h3; omega
            have hle:leAt x y i j k m=true:=by rw [leAt]; exact decide_eq_true (by omega)
            exact VAgain.mk _ rfl _ (gc_take rfl rfl rfl) ⟨m + 1,⟨by omega,all3_succ ham hle⟩,by omega,rfl⟩
          · obtain rfl:m=3:=by have h3:=h; simp [ints] at h3; omega
            exact VAgain.mk _ rfl _ (gc_take rfl rfl rfl) ⟨k + 1,⟨by omega,all3_succ hak ham⟩,by omega,rfl⟩
        · obtain rfl:k=3:=by simp [ints] at h; omega
          exact VAgain.mk _ rfl _ (gc_take rfl rfl rfl) ⟨j + 1,⟨by omega,all3_succ haj hak⟩,by omega,rfl⟩
      · obtain rfl:j=3:=by simp [ints] at h; omega
        exact VAgain.mk _ rfl _ (gc_take rfl rfl rfl) ⟨i + 1,⟨by omega,all3_succ hai haj⟩,by omega,rfl⟩
    · obtain rfl:i=3:=by simp [ints] at h; omega
      rw [hF,hai]
  · simp_all [leqR]
  · simp_all [leqR]
end Go.Proofs.YtehhihdahalfeaaGreatDoor
namespace Go.Proofs.YtehhihdahalfeaaGreatDoor
open Go Go.Am Go.Gw
set_option maxHeartbeats 1000000 in
set_option maxRecDepth 100000 in
theorem large18_can (idx:Int) (l:Lv) (cs:List Co) (v u:PV) (h:FamP idx l cs v) (hu:LvP l u) (hb:cs.length ≤ 1000000):Pf C1 29 [v] [bv (decide (cs=[]) || leqR (.mk 1 1 []) l)]:=by
  have hlv:=encL_ok l u hu
  have hn:=leq3_can (.mk 1 1 []) l (.ag [iv 1,iv 1,.sl true 0 []]) _ ⟨true,0,[],rfl,.inr rfl,by simp [LvsP],by simp⟩ hlv
  obtain ⟨b,z,xs,rfl,hz,hcs⟩:=h
  have hlen:=hcs.len
  obtain ⟨k,n,ls,b',z',xs',rfl,hE,hz',hxs',hlen',hbd'⟩:=hlv.open
  rw [hE] at hn ⊢
  have e:decide (cs=[])=decide (xs.length=0):=by
    cases cs with
    |nil=>simp at hlen; simp [hlen]
    |cons c r=>simp at hlen; simp [hlen]
  rw [e]
  refine run_intro Tryz.func29 rfl rfl rfl ?_
  repeat' ((conv=>whnf);first|refine gT ?_|refine gF ?_|refine VIf.not ?_|refine gA ?_|refine gB ?_|refine VIf.dec (fun h=>?_) (fun h=>?_)|refine gC ?_|refine gD ?_|refine VIf.mk (fun h=>?_) (fun h=>?_)|refine gO ?_|refine gP ?_|refine VNat.mk _ rfl ?_|refine gV ?_|refine vret_pf rfl ?_|refine vret_take rfl rfl ?_|refine vcall_pf hn rfl rfl ?_|refine finds_pf hn (fun _=>?_)|refine gK ?_)
  all_goals (try (conv=>whnf))
  · have h0:xs.length=0:=by omega
    simp [h0]
  · have h0:¬ xs.length=0:=by omega
    simp [h0,retV]
end Go.Proofs.YtehhihdahalfeaaGreatDoor
namespace Go.Gw
open Go
def tm (x y:Int):Int:=if x = -1 then -1 else x + y
def evF (f:Fm) (v:Nat→Int):Int:=max f.num (max (tm (f.off 0) (v 0)) (max (tm (f.off 1) (v 1)) (max (tm (f.off 2) (v 2)) (tm (f.off 3) (v 3)))))
theorem tm_ge {x y:Int} (hx : -1 ≤ x) (hy:0 ≤ y) : -1 ≤ tm x y:=by unfold tm; split <;> omega
theorem tm_join {a b y:Int} (ha : -1 ≤ a) (hb : -1 ≤ b) (hy:0 ≤ y):tm (max a b) y=max (tm a y) (tm b y):=by
  unfold tm
  by_cases h1:a = -1 <;> by_cases h2:b = -1
  · rw [if_pos (by omega),if_pos h1,if_pos h2]; omega
  · rw [if_neg (by omega),if_pos h1,if_neg h2]; omega
  · rw [if_neg (by omega),if_neg h1,if_pos h2]; omega
  · rw [if_neg (by omega),if_neg h1,if_neg h2]; omega
theorem tm_rise {a y:Int} (ha : -1 ≤ a) (hy:0 ≤ y):tm (rise a) y=rise (tm a y):=by
  unfold tm rise
  by_cases h1:a = -1
  · simp [h1]
  · rw [if_neg h1,if_neg h1,if_neg (by omega),if_neg (by omega)]; omega
def Fm.low (f:Fm):Prop:=-1 ≤ f.num∧∀ j,-1 ≤ f.off j
theorem ev_le {f:Fm} {v:Nat→Int} {x:Int}:evF f v ≤ x↔f.num ≤ x∧∀ j,j < 4→tm (f.off j) (v j) ≤ x:=by
  unfold evF
  simp only [Int.max_le]
  constructor
  · rintro ⟨h,h0,h1,h2,h3⟩
    refine ⟨h,fun j hj=>?_⟩
    obtain e|e|e|e:j=0∨j=1∨j=2∨j=3:=by omega
    all_goals subst e; assumption
  · rintro ⟨h,k⟩
    exact ⟨h,k 0 (by omega),k 1 (by omega),k 2 (by omega),k 3 (by omega)⟩
theorem num_le_ev (f:Fm) (v:Nat→Int):f.num ≤ evF f v:=(ev_le.1 (Int.le_refl _)).1
theorem off_le_ev (f:Fm) (v:Nat→Int) {j:Nat} (hj:j < 4):tm (f.off j) (v j) ≤ evF f v:=(ev_le.1 (Int.le_refl _)).2 j hj
theorem ev_cases (f:Fm) (v:Nat→Int):evF f v=f.num∨∃ j,j < 4∧evF f v=tm (f.off j) (v j):=by
  refine Classical.byContradiction fun h=>?_
  simp only [not_or,not_exists,not_and] at h
  obtain ⟨h1,h2⟩:=h
  have:evF f v ≤ evF f v - 1:=ev_le.2 ⟨by have:=num_le_ev f v; omega,fun j hj=>by have:=off_le_ev f v hj; have:=h2 j hj; omega⟩
  omega
theorem rise_mono {a b:Int} (ha : -1 ≤ a) (h:a ≤ b):rise a ≤ rise b:=by
  unfold rise
  by_cases h1:a = -1 <;> by_cases h2:b = -1
  · rw [if_pos h1,if_pos h2]; omega
  · rw [if_pos h1,if_neg h2]; omega
  · omega
  · rw [if_neg h1,if_neg h2]; omega
theorem ev_join {f g:Fm} {v:Nat→Int} (hf:f.low) (hg:g.low) (hv:∀ j,j < 4→0 ≤ v j):evF (joinF f g) v=max (evF f v) (evF g v):=by
  have ht:∀ j,j < 4→tm ((joinF f g).off j) (v j)=max (tm (f.off j) (v j)) (tm (g.off j) (v j)):=fun j hj=>tm_join (hf.2 j) (hg.2 j) (hv j hj)
  refine Int.le_antisymm (ev_le.2 ⟨?_,fun j hj=>?_⟩) (Int.max_le.2 ⟨ev_le.2 ⟨?_,fun j hj=>?_⟩,ev_le.2 ⟨?_,fun j hj=>?_⟩⟩)
  · have h1:=num_le_ev f v
    have h2:=num_le_ev g v
    show max f.num g.num ≤ _
    omega
  · rw [ht j hj]
    have h1:=off_le_ev f v hj
    have h2:=off_le_ev g v hj
    omega
  · have h1:=num_le_ev (joinF f g) v
    have h2:(joinF f g).num=max f.num g.num:=rfl
    omega
  · have h1:=off_le_ev (joinF f g) v hj
    rw [ht j hj] at h1
    omega
  · have h1:=num_le_ev (joinF f g) v
    have h2:(joinF f g).num=max f.num g.num:=rfl
    omega
  · have h1:=off_le_ev (joinF f g) v hj
    rw [ht j hj] at h1
    omega
theorem ev_raise {f:Fm} {v:Nat→Int} (hf:f.low) (hv:∀ j,j < 4→0 ≤ v j):evF (raiseF f) v=rise (evF f v):=by
  have ht:∀ j,j < 4→tm ((raiseF f).off j) (v j)=rise (tm (f.off j) (v j)):=fun j hj=>tm_rise (hf.2 j) (hv j hj)
  refine Int.le_antisymm (ev_le.2 ⟨rise_mono hf.1 (num_le_ev f v),fun j hj=>?_⟩) ?_
  · rw [ht j hj]
    exact rise_mono (tm_ge (hf.2 j) (hv j hj)) (off_le_ev f v hj)
  · rcases ev_cases f v with h|⟨j,hj,h⟩
    · rw [h]
      exact num_le_ev (raiseF f) v
    · rw [h,← ht j hj]
      exact off_le_ev (raiseF f) v hj
theorem low_join {f g:Fm} (hf:f.low) (hg:g.low):(joinF f g).low:=⟨by have:=hf.1; have:=hg.1; simp only [joinF]; omega,fun j=>by have:=hf.2 j; have:=hg.2 j; simp only [joinF]; omega⟩
theorem low_raise {f:Fm} (hf:f.low):(raiseF f).low:=⟨by have:=hf.1; simp only [raiseF,rise]; split <;> omega,fun j=>by have:=hf.2 j; simp only [raiseF,rise]; split <;> omega⟩
theorem low_const {n:Int} (h:0 ≤ n):(constF n).low:=⟨by simp only [constF]; omega,fun j=>by simp only [constF]; omega⟩
/-- numbers that fit a set of noughts -/
def Agree (z:Int) (f:Int→Int):Prop:=∀ n:Nat,n < 4→(bit z n=0→1 ≤ f n)∧(bit z n ≠ 0→f n=0)
theorem Agree.ge {z:Int} {f:Int→Int} (h:Agree z f):∀ j:Nat,j < 4→0 ≤ f j:=fun j hj=>by
  obtain ⟨h1,h2⟩:=h j hj
  by_cases hb:bit z j=0
  · have:=h1 hb; omega
  · rw [h2 hb]; omega
/-- what a form of a level is like -/
structure FmOk (z:Int) (f:Fm):Prop where
  low:f.low
  pos:∀ j:Nat,j < 4→f.off j ≠ -1→bit z j=0
theorem ev_const {n:Int} (h:0 ≤ n) (v:Nat→Int):evF (constF n) v=n:=by
  refine Int.le_antisymm (ev_le.2 ⟨Int.le_refl _,fun j hj=>?_⟩) (num_le_ev (constF n) v)
  simp only [constF,tm,if_true]
  omega
theorem ev_zero {z:Int} {f:Fm} {v:Int→Int} (ho:FmOk z f) (ha:Agree z v) (hev:0 ≤ evF f (fun j=>v j)):zeroF f=true↔evF f (fun j=>v j)=0:=by
  have key:∀ j:Nat,j < 4→f.off j ≠ -1→1 ≤ tm (f.off j) (v j):=fun j hj hne=>by
    have h1:=(ha j hj).1 (ho.pos j hj hne)
    have h2:=ho.low.2 j
    unfold tm
    rw [if_neg hne]
    omega
  have key':∀ j:Nat,f.off j = -1→tm (f.off j) (v j) = -1:=fun j h=>by unfold tm; rw [if_pos h]
  constructor
  · intro h
    simp only [zeroF,Bool.and_eq_true,decide_eq_true_eq] at h
    obtain ⟨hn,e0,e1,e2,e3⟩:=h
    refine Int.le_antisymm (ev_le.2 ⟨by omega,fun j hj=>?_⟩) hev
    have e:f.off j = -1:=by
      obtain e|e|e|e:j=0∨j=1∨j=2∨j=3:=by omega
      all_goals subst e; assumption
    show tm (f.off j) (v j) ≤ 0
    rw [key' j e]
    omega
  · intro h
    have hall:∀ j:Nat,j < 4→f.off j = -1:=fun j hj=>Classical.byContradiction fun hne=>by
      have h1:=key j hj hne
      have h2:=off_le_ev f (fun j=>v j) hj
      try dsimp only at h2
      omega
    have hn:f.num=0:=by
      rcases ev_cases f (fun j=>v j) with h1|⟨j,hj,h1⟩
      · omega
      · have h2:=key' j (hall j hj)
        try dsimp only at h1
        omega
    simp only [zeroF,Bool.and_eq_true,decide_eq_true_eq]
    exact ⟨hn,hall 0 (by omega),hall 1 (by omega),hall 2 (by omega),hall 3 (by omega)⟩
theorem val_form (l:Lv):∀ (z:Int) (f:Int→Int),allF l 4=true→Agree z f→FmOk z (formF l z)∧valF l f=evF (formF l z) (fun j=>f j)∧0 ≤ valF l f:=by
  induction l using Lv.ind with
  |_ k n ls ih =>
    intro z f hall ha
    rcases node_parts (all_node hall) with ⟨rfl,rfl,h1⟩|⟨rfl,rfl,h1⟩|⟨rfl,rfl,x,rfl⟩|⟨hk,rfl,x,y,rfl⟩
    · have e:formF (.mk 1 n []) z=constF n:=by simp [formF,formNode]
      have e2:valF (.mk 1 n []) f=n:=by simp [valF,valNode]
      rw [e,e2,ev_const h1.1]
      exact ⟨⟨low_const h1.1,fun j _ hne=>absurd rfl hne⟩,rfl,h1.1⟩
    · have e:formF (.mk 2 n []) z=paramF z n:=by simp [formF,formNode]
      have e2:valF (.mk 2 n []) f=f n:=by simp [valF,valNode]
      obtain ⟨i,rfl⟩:∃ i:Nat,n=i:=⟨n.toNat,by omega⟩
      have hi:i < 4:=by omega
      obtain ⟨ha1,ha2⟩:=ha i hi
      rw [e,e2]
      by_cases hb:bit z i=0
      · have e3:paramF z i=⟨-1,fun j=>if (j:Int)=i then 0 else -1⟩:=by unfold paramF; rw [if_pos hb]
        rw [e3]
        refine ⟨⟨⟨by simp,fun j=>by simp only; split <;> omega⟩,fun j hj hne=>?_⟩,?_,by have:=ha1 hb; omega⟩
        · have:(j:Int)=i:=by
            simp only at hne
            split at hne
            · assumption
            · exact absurd rfl hne
          have:j=i:=by omega
          rw [this]; exact hb
        · have hp:=ha1 hb
          have h3:tm 0 (f i)=f i:=by unfold tm; rw [if_neg (by omega)]; omega
          refine Int.le_antisymm ?_ (ev_le.2 ⟨by show (-1:Int) ≤ _; omega,fun j hj=>?_⟩)
          · have h4:=off_le_ev (⟨-1,fun j=>if (j:Int)=i then 0 else -1⟩:Fm) (fun j=>f j) hi
            dsimp only at h4
            rw [if_pos rfl,h3] at h4
            exact h4
          · dsimp only
            by_cases hji:(j:Int)=i
            · rw [if_pos hji,hji,h3]; omega
            · rw [if_neg hji]
              unfold tm
              rw [if_pos rfl]
              omega
      · have e3:paramF z i=constF 0:=by unfold paramF; rw [if_neg hb]
        rw [e3,ev_const (Int.le_refl _),ha2 hb]
        exact ⟨⟨low_const (Int.le_refl _),fun j _ hne=>absurd rfl hne⟩,rfl,Int.le_refl _⟩
    · obtain ⟨ho,hv,hp⟩:=ih x (by simp) z f (all_arg hall (i:=0) rfl) ha
      rw [formF_mk1,valF_mk1,ev_raise ho.low ha.ge,← hv]
      refine ⟨⟨low_raise ho.low,fun j hj hne=>ho.pos j hj fun e=>hne ?_⟩,?_,by omega⟩
      · simp [raiseF,rise,e]
      · unfold rise; rw [if_neg (by omega)]
    · obtain ⟨hox,hvx,hpx⟩:=ih x (by simp) z f (all_arg hall (i:=0) rfl) ha
      obtain ⟨hoy,hvy,hpy⟩:=ih y (by simp) z f (all_arg hall (i:=1) rfl) ha
      have hz:=ev_zero hoy ha (hvy ▸ hpy)
      rw [← hvy] at hz
      rw [formF_mk2 (by omega) (by omega) (by omega),valF_mk2 (by omega) (by omega) (by omega)]
      by_cases h5:k=5∧valF y f=0
      · rw [if_pos h5,if_pos ⟨h5.1,hz.2 h5.2⟩]
        exact ⟨hoy,by rw [← hvy,h5.2],Int.le_refl _⟩
      · rw [if_neg h5,if_neg (fun h=>h5 ⟨h.1,hz.1 h.2⟩),ev_join hox.low hoy.low ha.ge,← hvx,← hvy]
        refine ⟨⟨low_join hox.low hoy.low,fun j hj hne=>?_⟩,rfl,by omega⟩
        by_cases hxj:(formF x z).off j = -1
        · refine hoy.pos j hj fun e=>hne ?_
          simp only [joinF,hxj,e]; omega
        · exact hox.pos j hj hxj
theorem least_ev {f:Fm} (hf:f.low):leastF f=evF f (fun _=>1):=by
  have h0:=hf.1
  have key:∀ a x:Int,-1 ≤ a→-1 ≤ x→(if x = -1 then a else max a (x + 1))=max a (tm x 1)∧-1 ≤ max a (tm x 1):=fun a x ha hx=>by
    unfold tm
    split <;> omega
  obtain ⟨k0,l0⟩:=key f.num (f.off 0) h0 (hf.2 0)
  obtain ⟨k1,l1⟩:=key _ (f.off 1) l0 (hf.2 1)
  obtain ⟨k2,l2⟩:=key _ (f.off 2) l1 (hf.2 2)
  obtain ⟨k3,l3⟩:=key _ (f.off 3) l2 (hf.2 3)
  unfold leastF evF
  simp only [leastTo]
  rw [k0,k1,k2,k3,Int.max_assoc,Int.max_assoc,Int.max_assoc]
theorem tm_mono {a b y:Int} (ha : -1 ≤ a) (hb:a ≤ b) (hy:0 ≤ y):tm a y ≤ tm b y:=by
  unfold tm
  by_cases h1:a = -1 <;> by_cases h2:b = -1
  · rw [if_pos h1,if_pos h2]; omega
  · rw [if_pos h1,if_neg h2]; omega
  · omega
  · rw [if_neg h1,if_neg h2]; omega
theorem tm_mono' {b y y':Int} (hy:b ≠ -1→y ≤ y'):tm b y ≤ tm b y':=by
  unfold tm
  by_cases h2:b = -1
  · rw [if_pos h2,if_pos h2]; omega
  · rw [if_neg h2,if_neg h2]; have:=hy h2; omega
theorem below_ev {z:Int} {f g:Fm} {v:Int→Int} (hf:FmOk z f) (hg:FmOk z g) (ha:Agree z v) (h:belowF f g=true):evF f (fun j=>v j) ≤ evF g (fun j=>v j):=by
  simp only [belowF,offsTo,Bool.and_eq_true,decide_eq_true_eq,Bool.true_and] at h
  obtain ⟨⟨⟨⟨h0,h1⟩,h2⟩,h3⟩,hn⟩:=h
  have m0:=tm_mono (hf.low.2 0) h0 (ha.ge 0 (by omega))
  have m1:=tm_mono (hf.low.2 1) h1 (ha.ge 1 (by omega))
  have m2:=tm_mono (hf.low.2 2) h2 (ha.ge 2 (by omega))
  have m3:=tm_mono (hf.low.2 3) h3 (ha.ge 3 (by omega))
  have q:∀ j:Nat,j < 4→tm (g.off j) 1 ≤ tm (g.off j) (v j):=fun j hj=>tm_mono' fun hne=>(ha j hj).1 (hg.pos j hj hne)
  rw [least_ev hg.low] at hn
  refine ev_le.2 ⟨Int.le_trans hn (ev_le.2 ⟨num_le_ev _ _,fun j hj=>Int.le_trans (q j hj) (off_le_ev g (fun j=>v j) hj)⟩),fun j hj=>Int.le_trans ?_ (off_le_ev g (fun j=>v j) hj)⟩
  obtain e|e|e|e:j=0∨j=1∨j=2∨j=3:=by omega
  all_goals subst e; assumption
def zOf (f:Int→Int):Int:=(if f 0=0 then 1 else 0) + (if f 1=0 then 2 else 0) + (if f 2=0 then 4 else 0) + (if f 3=0 then 8 else 0)
theorem zOf_bit (f:Int→Int) (n:Nat) (hn:n < 4):bit (zOf f) n=if f n=0 then 1 else 0:=by
  unfold bit zOf
  rw [Int.toNat_natCast]
  obtain e|e|e|e:n=0∨n=1∨n=2∨n=3:=by omega
  all_goals
    subst e
    by_cases h0:f 0=0 <;> by_cases h1:f 1=0 <;> by_cases h2:f 2=0 <;> by_cases h3:f 3=0
    all_goals simp [h0,h1,h2,h3]
theorem zOf_bound (f:Int→Int):0 ≤ zOf f∧zOf f < 16:=by
  unfold zOf
  by_cases h0:f 0=0 <;> by_cases h1:f 1=0 <;> by_cases h2:f 2=0 <;> by_cases h3:f 3=0
  all_goals simp [h0,h1,h2,h3]
theorem agree_zOf {f:Int→Int} (hf:∀ n:Nat,n < 4→0 ≤ f n):Agree (zOf f) f:=fun n hn=>by
  have h:=hf n hn
  rw [zOf_bit f n hn]
  by_cases h0:f n=0
  · simp [h0]
  · simp [h0]; omega
theorem leqTo_iff {a b:Lv}:∀ {g:Nat},leqTo a b g=true↔∀ z:Nat,z < g→belowF (formF a z) (formF b z)=true
  |0=>by simp [leqTo]
  |g + 1=>by
    simp only [leqTo,Bool.and_eq_true,leqTo_iff (g:=g)]
    constructor
    · rintro ⟨h1,h2⟩ z hz
      by_cases e:z=g
      · rw [e]; exact h2
      · exact h1 z (by omega)
    · intro h
      exact ⟨fun z hz=>h z (by omega),h g (by omega)⟩
/-- at most, whatever the parameters -/
theorem leq_sound {a b:Lv} (h:leqF a b=true) {f:Int→Int} (hf:∀ n:Nat,n < 4→0 ≤ f n):valF a f ≤ valF b f:=by
  simp only [leqF,Bool.and_eq_true] at h
  obtain ⟨ha,hb,ht⟩:=h
  have hag:=agree_zOf hf
  obtain ⟨hz0,hz1⟩:=zOf_bound f
  obtain ⟨oa,va,_⟩:=val_form a (zOf f) f (right_all ha) hag
  obtain ⟨ob,vb,_⟩:=val_form b (zOf f) f (right_all hb) hag
  rw [va,vb]
  refine below_ev oa ob hag ?_
  have:=leqTo_iff.1 ht (zOf f).toNat (by omega)
  rwa [Int.toNat_of_nonneg hz0] at this
theorem clampF_pt {i j k m n:Nat} (hi:i < 3) (hj:j < 3) (hk:k < 3) (hm:m < 3) (hn:n < 4):clampF (pt i j k m) n=pts ([i,j,k,m].getD n 0):=by
  have hp:∀ q,q < 3→min (max (pts q) 0) 1048576=pts q:=fun q hq=>by
    obtain e|e|e:q=0∨q=1∨q=2:=by omega
    all_goals subst e; decide
  unfold clampF pt
  rw [Int.toNat_natCast]
  obtain e|e|e|e:n=0∨n=1∨n=2∨n=3:=by omega
  all_goals subst e; simp [hp,hi,hj,hk,hm]
/-- where it fails, it fails at a point of the grid -/
theorem below_point {a b:Lv} {z:Nat} (hz:z < 16) (ha:allF a 4=true) (hb:allF b 4=true) (hsa:sizeL a ≤ 64) (hsb:sizeL b ≤ 64) (h:belowF (formF a z) (formF b z)=false) :
    ∃ i j k m,i < 3∧j < 3∧k < 3∧m < 3∧valF b (clampF (pt i j k m)) < valF a (clampF (pt i j k m)):=by
  -- a point: nought where the set says so; 'w n' (1 or 2) elsewhere
  have point:∀ w:Nat→Nat,(∀ n,w n=1∨w n=2)→∃ i j k m,i < 3∧j < 3∧k < 3∧m < 3∧(∀ n:Nat,n < 4→clampF (pt i j k m) n=if bit z n=0 then pts (w n) else 0):=fun w hw=>by
    refine ⟨if bit z (0:Nat)=0 then w 0 else 0,if bit z (1:Nat)=0 then w 1 else 0,if bit z (2:Nat)=0 then w 2 else 0,if bit z (3:Nat)=0 then w 3 else 0,?_,?_,?_,?_,fun n hn=>?_⟩
    · have:=hw 0; split <;> omega
    · have:=hw 1; split <;> omega
    · have:=hw 2; split <;> omega
    · have:=hw 3; split <;> omega
    · rw [clampF_pt (by have:=hw 0; split <;> omega) (by have:=hw 1; split <;> omega) (by have:=hw 2; split <;> omega) (by have:=hw 3; split <;> omega) hn]
      have p0:pts 0=0:=rfl
      obtain e|e|e|e:n=0∨n=1∨n=2∨n=3:=by omega
      all_goals
        subst e
        simp only [List.getD_cons_zero,List.getD_cons_succ]
        split
        · rfl
        · exact p0
  have p1:pts 1=1:=rfl
  have p2:pts 2=1000:=rfl
  have agree:∀ (w:Nat→Nat) (f:Int→Int),(∀ n,w n=1∨w n=2)→(∀ n:Nat,n < 4→f n=if bit z n=0 then pts (w n) else 0)→Agree z f:=fun w f hw hf n hn=>by
    have h1:=hf n hn
    refine ⟨fun h0=>?_,fun h0=>?_⟩
    · rw [if_pos h0] at h1
      rcases hw n with e|e
      · rw [h1,e,p1]; omega
      · rw [h1,e,p2]; omega
    · rw [if_neg h0] at h1
      exact h1
  obtain ⟨na,oa⟩:=formF_ok a z ha
  obtain ⟨nb,ob⟩:=formF_ok b z hb
  by_cases hoff:∃ i,i < 4∧(formF b z).off i < (formF a z).off i
  · obtain ⟨i,hi,hlt⟩:=hoff
    have hw:∀ n,(fun n=>if n=i then 2 else 1:Nat→Nat) n=1∨(fun n=>if n=i then 2 else 1:Nat→Nat) n=2:=fun n=>by
      dsimp only
      split
      · exact .inr rfl
      · exact .inl rfl
    obtain ⟨i0,j0,k0,m0,hi0,hj0,hk0,hm0,hf⟩:=point (fun n=>if n=i then 2 else 1) hw
    refine ⟨i0,j0,k0,m0,hi0,hj0,hk0,hm0,?_⟩
    generalize clampF (pt i0 j0 k0 m0)=f at hf
    have hag:=agree _ f hw hf
    obtain ⟨qa,va,_⟩:=val_form a z f ha hag
    obtain ⟨qb,vb,_⟩:=val_form b z f hb hag
    have o1:=ob i
    have o2:=oa i
    have hne:(formF a z).off i ≠ -1:=by omega
    have hbi:=qa.pos i hi hne
    have hfi:f i=1000:=by
      have:=hf i hi
      rw [if_pos hbi] at this
      simpa [p2] using this
    have hA:=off_le_ev (formF a z) (fun j=>f j) hi
    have hA2:tm ((formF a z).off i) (f i)=(formF a z).off i + 1000:=by unfold tm; rw [if_neg hne,hfi]
    have hB:evF (formF b z) (fun j=>f j) ≤ (formF a z).off i + 999:=by
      refine ev_le.2 ⟨by omega,fun j hj=>?_⟩
      have oj:=ob j
      show tm ((formF b z).off j) (f j) ≤ _
      unfold tm
      split
      · omega
      · by_cases e:j=i
        · subst e; omega
        · have h1:=hf j hj
          rw [if_neg e,p1] at h1
          have:f j ≤ 1:=by
            rw [h1]
            split <;> omega
          omega
    rw [va,vb]
    try dsimp only at hA
    omega
  · have hno:∀ i,i < 4→(formF a z).off i ≤ (formF b z).off i:=fun i hi=>by
      refine Classical.byContradiction fun hn=>hoff ⟨i,hi,by omega⟩
    have hw:∀ n,(fun _=>1:Nat→Nat) n=1∨(fun _=>1:Nat→Nat) n=2:=fun n=>.inl rfl
    obtain ⟨i0,j0,k0,m0,hi0,hj0,hk0,hm0,hf⟩:=point (fun _=>1) hw
    refine ⟨i0,j0,k0,m0,hi0,hj0,hk0,hm0,?_⟩
    generalize clampF (pt i0 j0 k0 m0)=f at hf
    have hag:=agree _ f hw hf
    obtain ⟨qa,va,_⟩:=val_form a z f ha hag
    obtain ⟨qb,vb,_⟩:=val_form b z f hb hag
    have hn:leastF (formF b z) < (formF a z).num:=by
      have h':=h
      simp only [belowF,offsTo,hno 0 (by omega),hno 1 (by omega),hno 2 (by omega),hno 3 (by omega),decide_true,Bool.true_and,decide_eq_false_iff_not] at h'
      omega
    rw [least_ev qb.low] at hn
    have hB:evF (formF b z) (fun j=>f j) ≤ evF (formF b z) (fun _=>1):=by
      refine ev_le.2 ⟨num_le_ev _ _,fun j hj=>Int.le_trans (tm_mono' fun hne=>?_) (off_le_ev (formF b z) (fun _=>1) hj)⟩
      have h1:=hf j hj
      rw [if_pos (qb.pos j hj hne),p1] at h1
      show f j ≤ 1
      omega
    have hA:=num_le_ev (formF a z) (fun j=>f j)
    rw [va,vb]
    omega
theorem leqTo_point {a b:Lv} (ha:rightF a 4=true) (hb:rightF b 4=true) (h:∀ i j k m,i < 3→j < 3→k < 3→m < 3→valF a (clampF (pt i j k m)) ≤ valF b (clampF (pt i j k m))):leqF a b=true:=by
  simp only [leqF,ha,hb,Bool.true_and]
  refine leqTo_iff.2 fun z hz=>?_
  cases hbel:belowF (formF a z) (formF b z) with
  |true=>rfl
  |false =>
    obtain ⟨i,j,k,m,hi,hj,hk,hm,hlt⟩:=below_point hz (right_all ha) (right_all hb) (right_size' ha) (right_size' hb) hbel
    have:=h i j k m hi hj hk hm
    omega
theorem leq_eq (a b:Lv):leqF a b=leqR a b:=by
  cases ha:rightF a 4 with
  |false=>simp [leqF,leqR,ha]
  |true =>
    cases hb:rightF b 4 with
    |false=>simp [leqF,leqR,hb]
    |true =>
      rw [Bool.eq_iff_iff]
      constructor
      · intro h
        simp only [leqR,ha,hb,Bool.true_and,all3_iff]
        intro i hi j hj k hk m hm
        exact decide_eq_true (leq_sound h fun n _=>(clampF_bound _ _).1)
      · intro h
        simp only [leqR,ha,hb,Bool.true_and,all3_iff] at h
        exact leqTo_point ha hb fun i j k m hi hj hk hm=>of_decide_eq_true (h i hi j hj k hk m hm)
/- the order -/
/- what is made -/
end Go.Gw
namespace Go.Proofs.YtehhihdahalfeaaGreatDoor
open Go Go.Am Go.Gw
theorem large_same (cs:List Co) (l:Lv):(decide (cs=[]) || leqF (.mk 1 1 []) l)=(decide (cs=[]) || leqR (.mk 1 1 []) l):=by rw [leq_eq]
end Go.Proofs.YtehhihdahalfeaaGreatDoor

/-
  What the references find of names, levels and terms. No statement of the seat.
-/
import Derived.Test.YtehhihdahalfeaaGreatDoorZTb
set_option linter.unusedVariables false
set_option linter.unusedSimpArgs false
set_option linter.unnecessarySimpa false
namespace Go.Proofs.YtehhihdahalfeaaGreatDoor
open Go Go.Am Go.Gw
/-- a comparison of two bytes -/
def u8Op2 (op:BinOp) (a b:Int) (K:PV→Prop):Prop:=match op with
  | .lss=>K (bv (decide (a < b)))
  | .gtr=>K (bv (decide (b < a)))
  | .leq=>K (bv (decide (a ≤ b)))
  | .geq=>K (bv (decide (b ≤ a)))
  | .eql=>K (bv (a == b))
  |_=>False
theorem vres_u8' {P:Program} {op:BinOp} {T:TypeId} {x y:Operand} {a b:Int} {K:PV→Prop} (h:u8Op2 op a b K):VRes (slowBin P op T x y (.sc (.int .u8 a)) (.sc (.int .u8 b))) K:=by
  cases op with
  |lss=>exact ⟨_,u8_lss,h⟩
  |gtr=>exact ⟨_,u8_gtr,h⟩
  |leq=>exact ⟨_,by simp only [slowBin,toVal,eqGuard,binOp,Op.intCmp]; rfl,h⟩
  |geq=>exact ⟨_,by simp only [slowBin,toVal,eqGuard,binOp,Op.intCmp]; rfl,h⟩
  |eql=>exact ⟨_,by simp only [slowBin,toVal,eqGuard,binOp,Op.intCmp]; rfl,h⟩
  |_=>exact h.elim
theorem ret_bv {a b:Bool} (h:a=b):AEnd.ret [bv a]=AEnd.ret [bv b]:=by rw [h]
theorem idx_at {ρ:AEnv} {x y:Operand} {s:List UInt8} {i:Nat} {c:UInt8} (hx:aval ρ x=some (sv s)) (hy:aval ρ y=some (iv i)) (hc:s[i]? = some c):aIndex C1.P ρ 9 x y=some (.sc (.int .u8 c.toNat)):=by
  have hT:C1.P.underlying 9=some .string:=by kernel_rfl
  have e:qrun C1.P (Instr.index 9 (str s) (.int .i64 i))=some (.int .u8 c.toNat):=by
    have h0:(⟨s.toArray⟩:ByteArray)[i]? = some c:=by
      have hlt:=(List.getElem?_eq_some_iff.1 hc).1
      have hsz:i < (⟨s.toArray⟩:ByteArray).size:=by rw [ba_size]; exact hlt
      rw [getElem?_pos (⟨s.toArray⟩:ByteArray) i hsz]
      rw [← (List.getElem?_eq_some_iff.1 hc).2]
      rfl
    unfold Instr.index
    simp only [bind]
    simp [asIntOf,qrun,bind,Sem.bind,pure]
    rw [qrun_bind (qrun_under hT)]
    simp [pure,qrun,h0]
  simp only [aIndex,hx,hy]
  show (qrun C1.P (Instr.index 9 (str s) (.int .i64 i))).bind ofVal=_
  rw [e]
  rfl
set_option maxRecDepth 100000 in
theorem letter_can (c:UInt8):Pf C1 162 [.sc (.int .u8 c.toNat)] [bv (decide (97 ≤ c.toNat∧c.toNat ≤ 122∨c.toNat=95))]:=by
  refine run_intro Tryz.func162 rfl rfl rfl ?_
  repeat' ((conv=>whnf);first|refine gT ?_|refine gF ?_|refine VIf.not ?_|refine gA ?_|refine gB ?_|refine VIf.dec (fun h=>?_) (fun h=>?_)|refine gC ?_|refine gD ?_|refine VIf.mk (fun h=>?_) (fun h=>?_)|refine gO ?_|refine gP ?_|refine VNat.mk _ rfl ?_|refine gV ?_|refine vret_pf rfl ?_|refine vret_take rfl rfl ?_|refine vres_u8' ?_|refine gK ?_)
  all_goals (try (conv=>whnf))
  all_goals
    refine ret_bv ?_
    rw [Bool.eq_iff_iff]
    simp
    omega
set_option maxRecDepth 100000 in
theorem digit_can (c:UInt8):Pf C1 163 [.sc (.int .u8 c.toNat)] [bv (decide (48 ≤ c.toNat∧c.toNat ≤ 57))]:=by
  refine run_intro Tryz.func163 rfl rfl rfl ?_
  repeat' ((conv=>whnf);first|refine gT ?_|refine gF ?_|refine VIf.not ?_|refine gA ?_|refine gB ?_|refine VIf.dec (fun h=>?_) (fun h=>?_)|refine gC ?_|refine gD ?_|refine VIf.mk (fun h=>?_) (fun h=>?_)|refine gO ?_|refine gP ?_|refine VNat.mk _ rfl ?_|refine gV ?_|refine vret_pf rfl ?_|refine vret_take rfl rfl ?_|refine vres_u8' ?_|refine gK ?_)
  all_goals (try (conv=>whnf))
  all_goals
    refine ret_bv ?_
    rw [Bool.eq_iff_iff]
    simp
    omega
set_option maxRecDepth 100000 in
theorem rright_can (l:Lv):∀ v,LvP l v→∀ n,Pf C1 154 [v,iv n] [bv (allF l n)]:=by
  induction l using Lv.ind with
  |_ k nn ls ih =>
  intro v h n
  obtain ⟨_,_,_,b,z,xs,⟨rfl,rfl,rfl⟩,rfl,hz,hxs,hlen,hbd⟩:=h.open
  refine run_intro Tryz.func154 rfl rfl rfl ?_
  repeat' ((conv=>whnf);first|refine gT ?_|refine gF ?_|refine VIf.not ?_|refine gA ?_|refine gB ?_|refine VIf.dec (fun h=>?_) (fun h=>?_)|refine gC ?_|refine gD ?_|refine VIf.mk (fun h=>?_) (fun h=>?_)|refine gO ?_|refine gP ?_|refine VNat.mk _ rfl ?_|refine gV ?_|refine vret_pf rfl ?_|refine vret_take rfl rfl ?_|refine gK ?_)
  all_goals (try (conv=>whnf))
  all_goals try (refine ret_bv ?_; cases ls <;> simp_all [allF,allFs,nodeF,wideF]; done)
  all_goals try (refine ret_bv ?_; cases ls <;> simp_all [allF,allFs,nodeF,wideF]; all_goals omega)
  all_goals
    have hnode:nodeF (.mk k nn ls) n=true:=by simp_all [nodeF,wideF]
    refine loop_over (G:=Nat) (fun i=>[(6,iv i)]) (fun _=>_) (fun i=>i ≤ ls.length∧allFs (ls.drop i) n=allFs ls n) (fun i=>ls.length - i) 0 ⟨by omega,rfl⟩ rfl rfl ?_
    rintro i ⟨hi,hall⟩
    repeat' ((conv=>whnf);first|refine gT ?_|refine gF ?_|refine VIf.not ?_|refine gA ?_|refine gB ?_|refine VIf.dec (fun h=>?_) (fun h=>?_)|refine gC ?_|refine gD ?_|refine VIf.mk (fun h=>?_) (fun h=>?_)|refine gO ?_|refine gP ?_|refine VNat.mk _ rfl ?_|refine gV ?_|refine vret_pf rfl ?_|refine vret_take rfl rfl ?_|refine gK ?_)
    all_goals (try (conv=>whnf))
    · have hi':i < ls.length:=by simp_all; omega
      obtain ⟨lc,hlc⟩:∃ lc,ls[i]? = some lc:=⟨_,List.getElem?_eq_getElem hi'⟩
      obtain ⟨v,hv,hl⟩:=hxs.at hlc
      have hrec:=ih _ (List.mem_of_getElem? hlc) _ hl n
      obtain ⟨k1,n1,l1,b1,z1,x1,rfl,rfl,hz1,hxs1,hlen1,hbd1⟩:=hl.open
      refine VIdx.mk _ hv (VOk.mk (szOk_of rfl hz) ?_)
      rw [drop_at hlc] at hall
      simp only [allFs] at hall
      repeat' ((conv=>whnf);first|refine gT ?_|refine gF ?_|refine VIf.not ?_|refine gA ?_|refine gB ?_|refine VIf.dec (fun h=>?_) (fun h=>?_)|refine gC ?_|refine gD ?_|refine VIf.mk (fun h=>?_) (fun h=>?_)|refine gO ?_|refine gP ?_|refine VNat.mk _ rfl ?_|refine gV ?_|refine vret_pf rfl ?_|refine vret_take rfl rfl ?_|refine vcall_pf hrec rfl rfl ?_|refine gK ?_)
      all_goals (try (conv=>whnf))
      · refine VAgain.mk _ rfl _ (gc_take rfl rfl rfl) ⟨i + 1,⟨hi',?_⟩,by omega,rfl⟩
        rw [← hall,h]
        rfl
      · refine ret_bv ?_
        rw [allF,← hall,h]
        simp
    · refine ret_bv ?_
      have:i=ls.length:=by simp_all; omega
      subst this
      rw [List.drop_length] at hall
      rw [allF,hnode,← hall]
      rfl
set_option maxRecDepth 100000 in
theorem rRight_can (l:Lv) (v:PV) (h:LvP l v) (n:Int):Pf C1 112 [v,iv n] [bv (rightF l n)]:=by
  have hn:=levelNodes_can l v h 64 (by omega) (by omega)
  rw [show lnF l 64=nodesF l by rw [nodesF_eq,lnF_eq _ _ (by omega)]; rfl] at hn
  have ha:=rright_can l v h n
  obtain ⟨k,nn,ls,b,z,xs,rfl,rfl,hz,hxs,hlen,hbd⟩:=h.open
  refine run_intro Tryz.func112 rfl rfl rfl ?_
  repeat' ((conv=>whnf);first|refine gT ?_|refine gF ?_|refine VIf.not ?_|refine gA ?_|refine gB ?_|refine VIf.dec (fun h=>?_) (fun h=>?_)|refine gC ?_|refine gD ?_|refine VIf.mk (fun h=>?_) (fun h=>?_)|refine gO ?_|refine gP ?_|refine VNat.mk _ rfl ?_|refine gV ?_|refine vret_pf rfl ?_|refine vret_take rfl rfl ?_|refine vcall_pf hn rfl rfl ?_|refine vcall_pf ha rfl rfl ?_|refine gK ?_)
  all_goals (try (conv=>whnf))
  all_goals simp_all [rightF,retV]
  all_goals try omega
/- names, byte by byte -/
def letC (c:UInt8):Bool:=decide (97 ≤ c.toNat∧c.toNat ≤ 122∨c.toNat=95)
def digC (c:UInt8):Bool:=decide (48 ≤ c.toNat∧c.toNat ≤ 57)
def rnF:List UInt8→Bool→Bool
  |[],first=>!first
  |c :: r,first=>if c.toNat=46 then (if first then false else rnF r true) else if (letC c || (digC c && !first))=true then rnF r false else false
theorem plain_ld (c:UInt8):plainC c=(letC c || digC c):=by
  rw [Bool.eq_iff_iff]
  simp [plainC,letC,digC,UInt8.le_iff_toNat_le,← UInt8.toNat_inj]
  omega
theorem dig_eq (c:UInt8):(48 ≤ c && c ≤ 57)=digC c:=by
  rw [Bool.eq_iff_iff]
  simp [digC,UInt8.le_iff_toNat_le]
theorem part_snoc {p:List UInt8} (h:p ≠ []) (c:UInt8):partF (p ++ [c])=(partF p && plainC c):=by
  cases p with
  |nil=>exact absurd rfl h
  |cons a r=>simp [partF,Bool.and_assoc]
theorem let_dig (c:UInt8) (h:letC c=true):digC c=false:=by
  simp [letC,digC] at *
  omega
theorem split_rn:∀ (s acc:List UInt8),(acc=[]→(splitDot acc s).all partF=rnF s true)∧(acc ≠ []→partF acc.reverse=true→(splitDot acc s).all partF=rnF s false)∧(acc ≠ []→partF acc.reverse=false→(splitDot acc s).all partF=false)
  |[],acc=>by
    refine ⟨fun h=>?_,fun _ h=>?_,fun _ h=>?_⟩
    · subst h; rfl
    · simp [splitDot,h,rnF]
    · simp [splitDot,h]
  |c :: r,acc=>by
    have h46:(c == 46)=decide (c.toNat=46):=by
      rw [Bool.eq_iff_iff]
      simp [← UInt8.toNat_inj]
    have ih0:=(split_rn r []).1 rfl
    have ih1:=(split_rn r (c :: acc)).2.1 (by simp)
    have ih2:=(split_rn r (c :: acc)).2.2 (by simp)
    rw [List.reverse_cons] at ih1 ih2
    rw [splitDot,h46]
    by_cases hc:c.toNat=46
    · simp only [hc,decide_true,if_true,List.all_cons,ih0]
      refine ⟨fun h=>?_,fun _ h=>?_,fun _ h=>?_⟩
      · subst h; simp [partF,rnF,hc]
      · rw [h,rnF,if_pos hc]; rfl
      · rw [h]; rfl
    · simp only [hc,decide_false,if_false,Bool.false_eq_true]
      refine ⟨fun h=>?_,fun h hp=>?_,fun h hp=>?_⟩
      · subst h
        rw [rnF,if_neg hc]
        have e:partF ([].reverse ++ [c])=letC c:=by
          simp only [List.reverse_nil,List.nil_append,partF,dig_eq,List.all_cons,List.all_nil,Bool.and_true,plain_ld]
          cases hl:letC c
          · cases digC c <;> rfl
          · rw [let_dig c hl]; rfl
        cases hl:letC c
        · rw [ih2 (by rw [e,hl])]; simp
        · rw [ih1 (by rw [e,hl])]; simp
      · have e:partF (acc.reverse ++ [c])=plainC c:=by rw [part_snoc (by simpa using h),hp,Bool.true_and]
        rw [rnF,if_neg hc]
        cases hl:plainC c
        · rw [ih2 (by rw [e,hl])]; rw [plain_ld] at hl; simp [hl]
        · rw [ih1 (by rw [e,hl])]; rw [plain_ld] at hl; simp [hl]
      · have e:partF (acc.reverse ++ [c])=false:=by rw [part_snoc (by simpa using h),hp,Bool.false_and]
        exact ih2 e
theorem name_rn (s:List UInt8):nameF s=(decide (s.length ≤ 40) && rnF s true):=by rw [nameF,partsF,(split_rn s []).1 rfl]
set_option maxRecDepth 100000 in
theorem refName_can (s:List UInt8) (hs:s.length ≤ 140737488355328):Pf C1 118 [sv s] [bv (nameF s)]:=by
  have hsz:ByteArray.size ⟨s.toArray⟩=s.length:=by simp [ba_size]
  refine run_intro Tryz.func118 rfl rfl rfl ?_
  repeat' ((conv=>whnf);first|refine gT ?_|refine gF ?_|refine VIf.not ?_|refine gA ?_|refine gB ?_|refine VIf.dec (fun h=>?_) (fun h=>?_)|refine gC ?_|refine gD ?_|refine VIf.mk (fun h=>?_) (fun h=>?_)|refine gO ?_|refine gP ?_|refine VNat.mk _ rfl ?_|refine gV ?_|refine vret_pf rfl ?_|refine vret_take rfl rfl ?_|refine gK ?_)
  all_goals (try (conv=>whnf))
  · refine ret_bv ?_
    obtain rfl:s=[]:=List.eq_nil_of_length_eq_zero (by rw [hsz] at *; omega)
    rfl
  · refine ret_bv ?_
    rw [hsz] at *
    rw [name_rn,decide_eq_false (by omega)]
    rfl
  · have hnm:nameF s=rnF s true:=by
      rw [hsz] at *
      rw [name_rn,decide_eq_true (by omega)]
      rfl
    refine loop_over (G:=Nat × Bool) (fun g=>[(4,iv g.1),(3,bv g.2)]) (fun _=>_) (fun g=>g.1 ≤ s.length∧rnF (s.drop g.1) g.2=rnF s true) (fun g=>s.length - g.1) (0,true) ⟨by omega,rfl⟩ rfl rfl ?_
    rintro ⟨i,fst⟩ ⟨hi,hall⟩
    dsimp only at hi hall ⊢
    repeat' ((conv=>whnf);first|refine gT ?_|refine gF ?_|refine VIf.not ?_|refine gA ?_|refine gB ?_|refine VIf.dec (fun h=>?_) (fun h=>?_)|refine gC ?_|refine gD ?_|refine VIf.mk (fun h=>?_) (fun h=>?_)|refine gO ?_|refine gP ?_|refine VNat.mk _ rfl ?_|refine gV ?_|refine vret_pf rfl ?_|refine vret_take rfl rfl ?_|refine gK ?_)
    all_goals (try (conv=>whnf))
    · have hi':i < s.length:=by omega
      obtain ⟨c,hc⟩:∃ c,s[i]? = some c:=⟨_,List.getElem?_eq_getElem hi'⟩
      rw [drop_at hc,rnF] at hall
      have hlet:=letter_can c
      have hdig:=digit_can c
      repeat' ((conv=>whnf);first|refine gT ?_|refine gF ?_|refine VIf.not ?_|refine gA ?_|refine gB ?_|refine VIf.dec (fun h=>?_) (fun h=>?_)|refine gC ?_|refine gD ?_|refine VIf.mk (fun h=>?_) (fun h=>?_)|refine gO ?_|refine gP ?_|refine VNat.mk _ rfl ?_|refine gV ?_|refine vret_pf rfl ?_|refine vret_take rfl rfl ?_|refine VRes.mk _ (idx_at rfl rfl hc) ?_|refine vres_u8' ?_|refine vcall_pf hlet rfl rfl ?_|refine vcall_pf hdig rfl rfl ?_|refine gK ?_)
      all_goals (try (conv=>whnf))
      · refine ret_bv ?_
        rw [hnm,← hall,if_pos (by omega),if_pos (by assumption)]
      · refine VAgain.mk _ rfl _ (gc_take rfl rfl rfl) ⟨(i + 1,true),⟨hi',?_⟩,by dsimp only; omega,rfl⟩
        rw [← hall,if_pos (by omega),if_neg (by simp_all)]
      · refine VAgain.mk _ rfl _ (gc_take rfl rfl rfl) ⟨(i + 1,false),⟨hi',?_⟩,by dsimp only; omega,rfl⟩
        rw [← hall,if_neg (by omega),if_pos (by simp_all [letC])]
      · refine ret_bv ?_
        rw [hnm,← hall,if_neg (by omega),if_neg (by simp_all [letC,digC])]
      · refine VAgain.mk _ rfl _ (gc_take rfl rfl rfl) ⟨(i + 1,false),⟨hi',?_⟩,by dsimp only; omega,rfl⟩
        rw [← hall,if_neg (by omega),if_pos (by simp_all [digC])]
      · refine ret_bv ?_
        have h1:digC c=false:=decide_eq_false (by omega)
        have h2:letC c=false:=decide_eq_false (by omega)
        rw [hnm,← hall,if_neg (by omega),h1,h2]
        rfl
    · refine ret_bv ?_
      have:i=s.length:=by rw [hsz] at *; omega
      subst this
      rw [List.drop_length,rnF] at hall
      rw [hnm,← hall]
/- nodes -/
mutual
def sizT:Tm→Nat
  | .mk _ _ _ ls ts=>1 + sizeLs ls + sizTs ts
def sizTs:List Tm→Nat
  |[]=>0
  |t :: r=>sizT t + sizTs r
end
theorem lnFs_eq (q:Int) (h:0 ≤ q):∀ (ls:List Lv) (acc:Int),0 ≤ acc→(acc + sizeLs ls ≤ q→lnFs ls acc q=acc + sizeLs ls)∧(q < acc + sizeLs ls→q < lnFs ls acc q)
  |[],acc,h0=>by simp [lnFs,sizeLs]
  |l :: r,acc,h0=>by
    have h1:=lnF_eq l q h
    have h2:=nodes_sizeL l
    rw [lnFs,sizeLs]
    by_cases hq:acc ≤ q
    · rw [if_pos hq]
      have ih:=lnFs_eq q h r (acc + lnF l q) (by omega)
      constructor
      · intro h3
        rw [ih.1 (by omega)]
        omega
      · intro h3
        by_cases h4:(sizeL l:Int) ≤ q + 1
        · exact ih.2 (by omega)
        · have:=lnFs_bd q h r (acc + lnF l q)
          omega
    · rw [if_neg hq]
      omega
mutual
theorem refN_eq:∀ (t:Tm) (q:Int),0 ≤ q→refN t q=min (sizT t:Int) (q + 1)
  | .mk _ _ s ls ts,q,h=>by
    rw [refN,sizT]
    have h1:=lnFs_eq q h ls 1 (by omega)
    have h2:=lnFs_bd q h ls 1
    by_cases h3:1 + (sizeLs ls:Int) ≤ q
    · have h4:=refNs_eq ts (lnFs ls 1 q) q h (by omega)
      rw [h1.1 h3] at h4 ⊢
      by_cases h5:1 + (sizeLs ls:Int) + sizTs ts ≤ q
      · rw [h4.1 h5]; omega
      · have:=h4.2 (by omega); omega
    · have h4:=h1.2 (by omega)
      have:=refNs_bd ts (lnFs ls 1 q) q h
      omega
theorem refNs_eq:∀ (ts:List Tm) (acc q:Int),0 ≤ q→0 ≤ acc→(acc + sizTs ts ≤ q→refNs ts acc q=acc + sizTs ts)∧(q < acc + sizTs ts→q < refNs ts acc q)
  |[],acc,q,h,h0=>by simp [refNs,sizTs]
  |t :: r,acc,q,h,h0=>by
    have h1:=refN_eq t q h
    have h2:1 ≤ refN t q:=(refN_bd t q h).1
    rw [refNs,sizTs]
    by_cases hq:acc ≤ q
    · rw [if_pos hq]
      have ih:=refNs_eq r (acc + refN t q) q h (by omega)
      constructor
      · intro h3
        rw [ih.1 (by omega)]
        omega
      · intro h3
        by_cases h4:(sizT t:Int) ≤ q + 1
        · exact ih.2 (by omega)
        · have:=refNs_bd r (acc + refN t q) q h
          omega
    · rw [if_neg hq]
      omega
end
mutual
theorem cntT_eq:∀ (t:Tm) (left:Int),0 ≤ left→((sizT t:Int) ≤ left→cntT t left=left - sizT t)∧(left < (sizT t:Int)→cntT t left = -1)
  | .mk _ _ s ls ts,left,h=>by
    rw [cntT,sizT]
    have h1:=countFs_eq ls (left - 1) (by omega)
    have hg:=countFs_ge ls (left - 1) (by omega)
    by_cases h3:(sizeLs ls:Int) ≤ left - 1
    · rw [h1.1 h3]
      have h4:=cntTs_eq ts (left - 1 - sizeLs ls) (by omega)
      constructor
      · intro h5
        rw [h4.1 (by omega)]
        omega
      · intro h5
        by_cases hts:ts=[]
        · subst hts
          simp only [sizTs] at h5
          omega
        · exact h4.2 (by omega) hts
    · by_cases h6:left=0
      · subst h6
        rw [countFs_neg _ _ (by omega),cntTs_neg _ _ (by omega)]
        constructor
        · intro; omega
        · intro; rfl
      · have h2:ls ≠ []:=by
          rintro rfl
          simp only [sizeLs] at h3
          omega
        rw [h1.2 (by omega) h2,cntTs_neg _ _ (by omega)]
        constructor
        · intro; omega
        · intro; rfl
theorem cntTs_eq:∀ (ts:List Tm) (left:Int),-1 ≤ left→((sizTs ts:Int) ≤ left→cntTs ts left=left - sizTs ts)∧(left < (sizTs ts:Int)→ts ≠ []→cntTs ts left = -1)
  |[],left,h=>by simp [cntTs,sizTs]
  |t :: r,left,h=>by
    rw [cntTs,sizTs]
    by_cases h0:left < 0
    · rw [if_pos h0]
      have:1 ≤ sizT t:=by cases t; simp [sizT]; omega
      constructor
      · intro; omega
      · intro; omega
    · rw [if_neg h0]
      have h1:=cntT_eq t left (by omega)
      by_cases h2:(sizT t:Int) ≤ left
      · rw [h1.1 h2]
        have ih:=cntTs_eq r (left - sizT t) (by omega)
        constructor
        · intro h3
          rw [ih.1 (by omega)]
          omega
        · intro h3 _
          by_cases hr:r=[]
          · subst hr
            simp only [sizTs] at h3
            omega
          · exact ih.2 (by omega) hr
      · rw [h1.2 (by omega),cntTs_neg _ _ (by omega)]
        constructor
        · intro; omega
        · intro; simp
end
theorem nodesT_eq (t:Tm):nodesT t=min (sizT t:Int) 2001:=by
  have:=cntT_eq t 2000 (by omega)
  unfold nodesT
  by_cases h:(sizT t:Int) ≤ 2000
  · rw [this.1 h]; omega
  · rw [this.2 (by omega)]; omega
theorem refN_nodes (t:Tm):refN t 2000=nodesT t:=by rw [nodesT_eq,refN_eq t 2000 (by omega)]; rfl
set_option maxHeartbeats 4000000 in
set_option maxRecDepth 100000 in
theorem rrightT_can (t:Tm):∀ v,TmP t v→NmT AnyName t→∀ n kk:Int,0 ≤ kk→kk + depT t ≤ 2251799813685248→Pf C1 74 [v,iv n,iv kk] [bv (allT t n kk)]:=by
  induction t using Tm.ind with
  |_ k nn s ls ts ih =>
  intro v h hnt n kk hk0 hk1
  simp only [NmT] at hnt
  have hname:=refName_can s hnt.1
  obtain ⟨_,_,_,_,_,b,z,xs,c,y,ys,⟨rfl,rfl,rfl,rfl,rfl⟩,rfl,hz,hxs,hlen,hbd,hy,hys,hlen2,hbd2,hsl⟩:=h.open
  rw [depT] at hk1
  refine run_intro Tryz.func74 rfl rfl rfl ?_
  repeat' ((conv=>whnf);first|refine gT ?_|refine gF ?_|refine VIf.not ?_|refine gA ?_|refine gB ?_|refine VIf.dec (fun h=>?_) (fun h=>?_)|refine gC ?_|refine gD ?_|refine VIf.mk (fun h=>?_) (fun h=>?_)|refine gO ?_|refine gP ?_|refine VNat.mk _ rfl ?_|refine gV ?_|refine vret_pf rfl ?_|refine vret_take rfl rfl ?_|refine gK ?_)
  all_goals (try (conv=>whnf))
  refine loop_over (G:=Nat) (fun i=>[(7,iv i)]) (fun _=>_) (fun i=>i ≤ ls.length∧rightLs (ls.drop i) n=rightLs ls n) (fun i=>ls.length - i) 0 ⟨by omega,rfl⟩ rfl rfl ?_
  rintro i ⟨hi,hall⟩
  repeat' ((conv=>whnf);first|refine gT ?_|refine gF ?_|refine VIf.not ?_|refine gA ?_|refine gB ?_|refine VIf.dec (fun h=>?_) (fun h=>?_)|refine gC ?_|refine gD ?_|refine VIf.mk (fun h=>?_) (fun h=>?_)|refine gO ?_|refine gP ?_|refine VNat.mk _ rfl ?_|refine gV ?_|refine vret_pf rfl ?_|refine vret_take rfl rfl ?_|refine vcall_pf hname rfl rfl ?_|refine vres_str (b:=[]) ?_|refine gK ?_)
  all_goals (try (conv=>whnf))
  · have hi':i < ls.length:=by omega
    obtain ⟨lc,hlc⟩:∃ lc,ls[i]? = some lc:=⟨_,List.getElem?_eq_getElem hi'⟩
    obtain ⟨v,hv,hl⟩:=hxs.at hlc
    have hr:=rRight_can lc _ hl n
    obtain ⟨k1,n1,l1,b1,z1,x1,rfl,rfl,hz1,hxs1,hlen1,hbd1⟩:=hl.open
    refine VIdx.mk _ hv (VOk.mk (szOk_of rfl hz) ?_)
    rw [drop_at hlc] at hall
    simp only [rightLs] at hall
    repeat' ((conv=>whnf);first|refine gT ?_|refine gF ?_|refine VIf.not ?_|refine gA ?_|refine gB ?_|refine VIf.dec (fun h=>?_) (fun h=>?_)|refine gC ?_|refine gD ?_|refine VIf.mk (fun h=>?_) (fun h=>?_)|refine gO ?_|refine gP ?_|refine VNat.mk _ rfl ?_|refine gV ?_|refine vret_pf rfl ?_|refine vret_take rfl rfl ?_|refine vcall_pf hr rfl rfl ?_|refine gK ?_)
    all_goals (try (conv=>whnf))
    · refine VAgain.mk _ rfl _ (gc_take rfl rfl rfl) ⟨i + 1,⟨hi',?_⟩,by omega,rfl⟩
      rw [← hall,h]
      rfl
    · have:rightLs ls n=false:=by
        rw [← hall,h]
        rfl
      refine ret_bv ?_
      rw [allT,this]
      simp
  all_goals
    have hls:rightLs ls n=true:=by
      rw [← hall,List.drop_of_length_le (by omega)]
      rfl
    clear hall
  all_goals try (exfalso; omega)
  all_goals try (clear ih hname; refine ret_bv (Eq.symm ?_); simp_all [allT,nodeT,shArgs,shLevels]; done)
  all_goals try (clear ih hname; refine ret_bv (Eq.symm ?_); simp_all [allT,nodeT,shArgs,shLevels]; all_goals omega)
  iterate 3
    · have hsh:(ts.length:Int)=shArgs k:=by unfold shArgs; split <;> first|omega|(split <;> omega)
      have hnode:nodeT (.mk k nn s ls ts) kk=true:=by
        clear ih hname
        simp_all [nodeT,shLevels]
        try omega
      have hk17:1 ≤ k∧k ≤ 7:=by omega
      have hall0:allT (.mk k nn s ls ts) n kk=allTs ts k 0 n kk:=by rw [allT,decide_eq_true hk17.1,decide_eq_true hk17.2,decide_eq_true hsh,hnode,hls]; rfl
      refine loop_over (G:=Nat) (fun i=>[(10,iv i)]) (fun _=>_) (fun j=>j ≤ ts.length∧allTs (ts.drop j) k j n kk=allTs ts k 0 n kk) (fun i=>ts.length - i) 0 ⟨by omega,rfl⟩ rfl rfl ?_
      rintro j ⟨hj,hallj⟩
      repeat' ((conv=>whnf);first|refine gT ?_|refine gF ?_|refine VIf.not ?_|refine gA ?_|refine gB ?_|refine VIf.dec (fun h=>?_) (fun h=>?_)|refine gC ?_|refine gD ?_|refine VIf.mk (fun h=>?_) (fun h=>?_)|refine gO ?_|refine gP ?_|refine VNat.mk _ rfl ?_|refine gV ?_|refine vret_pf rfl ?_|refine vret_take rfl rfl ?_|refine gK ?_)
      all_goals (try (conv=>whnf))
      refine ret_bv ?_
      rw [hall0,← hallj,List.drop_of_length_le (by omega)]
      rfl
  all_goals
    have hsh:(ts.length:Int)=shArgs k:=by unfold shArgs; split <;> first|omega|(split <;> omega)
    have hnode:nodeT (.mk k nn s ls ts) kk=true:=by
      clear ih hname
      simp_all [nodeT,shLevels]
      try omega
    have hk17:1 ≤ k∧k ≤ 7:=by omega
    have hall0:allT (.mk k nn s ls ts) n kk=allTs ts k 0 n kk:=by rw [allT,decide_eq_true hk17.1,decide_eq_true hk17.2,decide_eq_true hsh,hnode,hls]; rfl
    refine loop_over (G:=Nat) (fun i=>[(10,iv i)]) (fun _=>_) (fun j=>j ≤ ts.length∧allTs (ts.drop j) k j n kk=allTs ts k 0 n kk) (fun i=>ts.length - i) 0 ⟨by omega,rfl⟩ rfl rfl ?_
    rintro j ⟨hj,hallj⟩
    have hb0:=binds_can k j hk17.1 (by omega)
    repeat' ((conv=>whnf);first|refine gT ?_|refine gF ?_|refine VIf.not ?_|refine gA ?_|refine gB ?_|refine VIf.dec (fun h=>?_) (fun h=>?_)|refine gC ?_|refine gD ?_|refine VIf.mk (fun h=>?_) (fun h=>?_)|refine gO ?_|refine gP ?_|refine VNat.mk _ rfl ?_|refine gV ?_|refine vret_pf rfl ?_|refine vret_take rfl rfl ?_|refine gK ?_)
    all_goals (try (conv=>whnf))
    · have hj':j < ts.length:=by omega
      obtain ⟨tc,htc⟩:∃ tc,ts[j]? = some tc:=⟨_,List.getElem?_eq_getElem hj'⟩
      obtain ⟨v,hv,hl⟩:=hys.at htc
      have hmem:=List.mem_of_getElem? htc
      have hdep:=depTs_mem hmem
      have hrec0:=ih _ hmem _ hl (hnt.2.mem _ hmem) n kk hk0 (by omega)
      have hrec1:=ih _ hmem _ hl (hnt.2.mem _ hmem) n (kk + 1) (by omega) (by omega)
      obtain ⟨k1,n1,s1,l1,t1,b1,z1,x1,c1,y1,ys1,rfl,rfl,hz1,hxs1,hlen1,hbd1,hy1,hys1,hlen21,hbd21,hsl1⟩:=hl.open
      rw [drop_at htc] at hallj
      simp only [allTs] at hallj
      repeat' ((conv=>whnf);first|refine gT ?_|refine gF ?_|refine VIf.not ?_|refine gA ?_|refine gB ?_|refine VIf.dec (fun h=>?_) (fun h=>?_)|refine gC ?_|refine gD ?_|refine VIf.mk (fun h=>?_) (fun h=>?_)|refine gO ?_|refine gP ?_|refine VNat.mk _ rfl ?_|refine gV ?_|refine vret_pf rfl ?_|refine vret_take rfl rfl ?_|refine vcall_pf hb0 rfl rfl ?_|refine VIdx.mk _ hv ?_|refine VOk.mk (szOk_of rfl hy) ?_|refine vcall_pf hrec0 rfl rfl ?_|refine vcall_pf hrec1 rfl rfl ?_|refine gK ?_)
      all_goals (try (conv=>whnf))
      · rw [innerF,if_pos (by assumption),h,Bool.true_and] at hallj
        exact VAgain.mk _ rfl _ (gc_take rfl rfl rfl) ⟨j + 1,⟨hj',hallj⟩,by omega,rfl⟩
      · rw [innerF,if_pos (by assumption),h,Bool.false_and] at hallj
        refine ret_bv ?_
        rw [hall0,← hallj]
      · rw [innerF,if_neg (by assumption),h,Bool.true_and] at hallj
        exact VAgain.mk _ rfl _ (gc_take rfl rfl rfl) ⟨j + 1,⟨hj',hallj⟩,by omega,rfl⟩
      · rw [innerF,if_neg (by assumption),h,Bool.false_and] at hallj
        refine ret_bv ?_
        rw [hall0,← hallj]
    · refine ret_bv ?_
      rw [hall0,← hallj,List.drop_of_length_le (by omega)]
      rfl
set_option maxRecDepth 100000 in
theorem refRightT_can (t:Tm) (v:PV) (h:TmP t v) (hnt:NmT AnyName t) (n kk:Int):Pf C1 34 [v,iv n,iv kk] [bv (rightT t n kk)]:=by
  have hn:=refNodes_can t v h 2000 (by omega) (by omega)
  rw [refN_nodes] at hn
  have ha:=fun (h0:0 ≤ kk) (h1:nodesT t ≤ 2000)=>rrightT_can t v h hnt n (min kk 1125899906842624) (by omega) (by have:=nodes_dep h1; omega)
  rw [show min kk 1125899906842624=if 1125899906842624 < kk then 1125899906842624 else kk from (min_def'' _ _).symm] at ha
  obtain ⟨k,nn,s,ls,ts,b,z,xs,c,y,ys,rfl,rfl,hz,hxs,hlen,hbd,hy,hys,hlen2,hbd2,hsl⟩:=h.open
  refine run_intro Tryz.func34 rfl rfl rfl ?_
  repeat' ((conv=>whnf);first|refine gT ?_|refine gF ?_|refine VIf.not ?_|refine gA ?_|refine gB ?_|refine VIf.dec (fun h=>?_) (fun h=>?_)|refine gC ?_|refine gD ?_|refine VIf.mk (fun h=>?_) (fun h=>?_)|refine gO ?_|refine gP ?_|refine VNat.mk _ rfl ?_|refine gV ?_|refine vret_pf rfl ?_|refine vret_take rfl rfl ?_|refine vcall_pf hn rfl rfl ?_|refine vcall_pf (ha (by assumption) (by assumption)) rfl rfl ?_|refine gK ?_)
  all_goals (try (conv=>whnf))
  all_goals simp only [rightT,← min_def'']
  all_goals simp_all
  all_goals first|done|rfl|omega|(intros; omega)
def anyT (t:Tm):Bool:=rightT t 4 1125899906842624
end Go.Proofs.YtehhihdahalfeaaGreatDoor

/-
  What package name finds: a part of a name. No statement of the seat.
-/
import Derived.Test.YtehhihdahalfeaaGreatDoorZPl
import Derived.Test.YtehhihdahalfeaaGreatDoorZSh
import Derived.Test.YtehhihdahalfeaaGreatDoorZPm
set_option linter.unusedVariables false
set_option linter.unusedSimpArgs false
set_option linter.unnecessarySimpa false
namespace Go.Proofs.YtehhihdahalfeaaGreatDoor
open Go Go.Am Go.Gw
theorem decode_low (s:ByteArray) (i:Nat) (h:(s.get! i).toNat < 128):Utf8.decode s i=((s.get! i).toNat,1):=by
  unfold Utf8.decode
  simp only [Nat.add_zero]
  rw [if_pos h]
theorem decode_high (s:ByteArray) (i:Nat) (h:¬ (s.get! i).toNat < 128):128 ≤ (Utf8.decode s i).1:=by
  unfold Utf8.decode
  simp only [Nat.add_zero]
  rw [if_neg h]
  repeat' split
  all_goals simp_all [Utf8.runeError]
  all_goals omega
theorem get_at (s:List UInt8) (i:Nat) (h:i < s.length):(⟨s.toArray⟩:ByteArray).get! i=s[i]:=by
  simp [ByteArray.get!,h]
theorem plainR_eq (c:UInt8):plainR c.toNat=plainC c:=by
  rw [Bool.eq_iff_iff]
  simp [plainR,plainC,UInt8.le_iff_toNat_le,← UInt8.toNat_inj]
  omega
theorem idx_from (s:List UInt8):∀ (f pos:Nat),s.length ≤ pos + f→(Lib.idxFuncFrom (fun c=>!plainR c) true ⟨s.toArray⟩ f pos < 0↔(s.drop pos).all plainC=true)
  |0,pos,h=>by
    rw [List.drop_of_length_le (by omega)]
    simp [Lib.idxFuncFrom]
  |f + 1,pos,h=>by
    by_cases hp:pos < s.length
    · have hsz:pos < (⟨s.toArray⟩:ByteArray).size:=by rw [ba_size]; exact hp
      have hg:=get_at s pos hp
      rw [Lib.idxFuncFrom,if_pos hsz,List.drop_eq_getElem_cons hp,List.all_cons]
      by_cases hl:((⟨s.toArray⟩:ByteArray).get! pos).toNat < 128
      · rw [decode_low _ _ hl,hg]
        simp only [plainR_eq]
        have ih:=idx_from s f (pos + 1) (by omega)
        cases hc:plainC s[pos]
        · simp
        · simp [ih]
      · have hh:=decode_high _ _ hl
        have h1:plainR (Utf8.decode ⟨s.toArray⟩ pos).1=false:=by
          simp only [plainR,decide_eq_false_iff_not]
          omega
        have h2:plainC s[pos]=false:=by
          rw [← plainR_eq]
          rw [hg] at hl
          simp only [plainR,decide_eq_false_iff_not]
          omega
        rw [h1,h2]
        simp
    · rw [List.drop_of_length_le (by omega),Lib.idxFuncFrom_end _ _ _ _ _ (by rw [ba_size]; exact hp)]
      simp
theorem idx_plain (s:List UInt8):decide (Lib.idxFunc (fun c=>!plainR c) true ⟨s.toArray⟩ < 0)=s.all plainC:=by
  have:=idx_from s (⟨s.toArray⟩:ByteArray).size 0 (by rw [ba_size]; omega)
  rw [Bool.eq_iff_iff,decide_eq_true_eq]
  simpa [Lib.idxFunc] using this
theorem indexFunc_can (s:List UInt8):Pf C1 205 [sv s,.fn 203 [] []] [iv (Lib.idxFunc (fun c=>!plainR c) true ⟨s.toArray⟩)]:=pf_nat rfl rfl
set_option maxRecDepth 100000 in
theorem idx0 {ρ:AEnv} {x y:Operand} {c:UInt8} {r:List UInt8} (hx:aval ρ x=some (sv (c :: r))) (hy:aval ρ y=some (iv 0)):aIndex C1.P ρ 9 x y=some (.sc (.int .u8 c.toNat)):=by
  simp only [aIndex,hx,hy]
  rfl
theorem u8_lss {P:Program} {T:TypeId} {x y:Operand} {a b:Int}:slowBin P .lss T x y (.sc (.int .u8 a)) (.sc (.int .u8 b))=some (bv (decide (a < b))):=by
  simp only [slowBin,toVal,eqGuard,binOp,Op.intCmp]
  rfl
theorem u8_gtr {P:Program} {T:TypeId} {x y:Operand} {a b:Int}:slowBin P .gtr T x y (.sc (.int .u8 a)) (.sc (.int .u8 b))=some (bv (decide (b < a))):=by
  simp only [slowBin,toVal,eqGuard,binOp,Op.intCmp]
  rfl
/-- a comparison of two bytes -/
def u8Op (op:BinOp) (a b:Int) (K:PV→Prop):Prop:=match op with
  | .lss=>K (bv (decide (a < b)))
  | .gtr=>K (bv (decide (b < a)))
  |_=>False
theorem vres_u8 {P:Program} {op:BinOp} {T:TypeId} {x y:Operand} {a b:Int} {K:PV→Prop} (h:u8Op op a b K):VRes (slowBin P op T x y (.sc (.int .u8 a)) (.sc (.int .u8 b))) K:=by
  cases op with
  |lss=>exact ⟨_,u8_lss,h⟩
  |gtr=>exact ⟨_,u8_gtr,h⟩
  |_=>exact h.elim
set_option maxRecDepth 100000 in
theorem part_can (s:List UInt8):Pf C1 169 [sv s] [bv (partF s)]:=by
  have hi:=indexFunc_can s
  have hp:=idx_plain s
  cases s with
  |nil =>
    refine run_intro Tryz.func169 rfl rfl rfl ?_
    repeat' ((conv=>whnf);first|refine gT ?_|refine gF ?_|refine VIf.not ?_|refine gA ?_|refine gB ?_|refine VIf.dec (fun h=>?_) (fun h=>?_)|refine gC ?_|refine gD ?_|refine VIf.mk (fun h=>?_) (fun h=>?_)|refine gO ?_|refine gP ?_|refine VNat.mk _ rfl ?_|refine gV ?_|refine vret_pf rfl ?_|refine vret_take rfl rfl ?_|refine vres_str ?_|refine gK ?_)
    all_goals (try (conv=>whnf))
    all_goals first|rfl|(rename_i h; simp at h)|simp_all
  |cons c r =>
    refine run_intro Tryz.func169 rfl rfl rfl ?_
    repeat' ((conv=>whnf);first|refine gT ?_|refine gF ?_|refine VIf.not ?_|refine gA ?_|refine gB ?_|refine VIf.dec (fun h=>?_) (fun h=>?_)|refine gC ?_|refine gD ?_|refine VIf.mk (fun h=>?_) (fun h=>?_)|refine gO ?_|refine gP ?_|refine VNat.mk _ rfl ?_|refine gV ?_|refine vret_pf rfl ?_|refine vret_take rfl rfl ?_|refine vres_str ?_|refine VRes.mk _ (idx0 rfl rfl) ?_|refine vres_u8 ?_|refine vcall_pf hi rfl rfl ?_|refine gK ?_)
    all_goals (try (conv=>whnf))
    all_goals
      have hd:(48 ≤ c && c ≤ 57)=decide (48 ≤ c.toNat∧c.toNat ≤ 57):=by
        rw [Bool.eq_iff_iff]
        simp [UInt8.le_iff_toNat_le]
    · rw [hp,partF,hd,decide_eq_false (by omega)]
      rfl
    · rw [hp,partF,hd,decide_eq_false (by omega)]
      rfl
    · rw [partF,hd,decide_eq_true (by omega)]
      rfl
end Go.Proofs.YtehhihdahalfeaaGreatDoor
namespace Go.Proofs.YtehhihdahalfeaaGreatDoor
open Go Go.Am Go.Gw
set_option maxRecDepth 100000 in
theorem splitSeq_can (s:List UInt8):Finds C1 202 [sv s,sv [46],iv 0] [] fun r st=>r = .ret [.fn 223 [] [.bp 1 0,.bp 0 0,.bp 2 0]]∧st=[.box 9 [sv s],.box 9 [sv [46]],.box 3 [iv 0]]:=by
  refine run_intro Tryz.func202 rfl rfl rfl ?_
  repeat' ((conv=>whnf);first|refine gT ?_|refine gF ?_|refine VIf.not ?_|refine gA ?_|refine gB ?_|refine VIf.dec (fun h=>?_) (fun h=>?_)|refine gC ?_|refine gD ?_|refine VIf.mk (fun h=>?_) (fun h=>?_)|refine gO ?_|refine gP ?_|refine VNat.mk _ rfl ?_|refine gV ?_|refine vret_pf rfl ?_|refine vret_take rfl rfl ?_|refine gK ?_)
  all_goals (try (conv=>whnf))
  exact VRet.mk [.fn 223 [] [.bp 1 0,.bp 0 0,.bp 2 0]] [.box 9 [sv s],.box 9 [sv [46]],.box 3 [iv 0]] (by kernel_rfl) ⟨rfl,rfl⟩
set_option maxRecDepth 100000 in
theorem SplitSeq_can (s:List UInt8):Finds C1 168 [sv s,sv [46]] [] fun r st=>r = .ret [.fn 223 [] [.bp 1 0,.bp 0 0,.bp 2 0]]∧st=[.box 9 [sv s],.box 9 [sv [46]],.box 3 [iv 0]]:=by
  refine run_intro Tryz.func168 rfl rfl rfl ?_
  repeat' ((conv=>whnf);first|refine gT ?_|refine gF ?_|refine VIf.not ?_|refine gA ?_|refine gB ?_|refine VIf.dec (fun h=>?_) (fun h=>?_)|refine gC ?_|refine gD ?_|refine VIf.mk (fun h=>?_) (fun h=>?_)|refine gO ?_|refine gP ?_|refine VNat.mk _ rfl ?_|refine gV ?_|refine vret_pf rfl ?_|refine vret_take rfl rfl ?_|refine gK ?_)
  all_goals (try (conv=>whnf))
  refine vcall_made rfl (Finds.mono (splitSeq_can s) ?_)
  rintro _ _ ⟨rfl,rfl⟩
  refine ⟨rfl,vback rfl ?_⟩
  repeat' ((conv=>whnf);first|refine gT ?_|refine gF ?_|refine VIf.not ?_|refine gA ?_|refine gB ?_|refine VIf.dec (fun h=>?_) (fun h=>?_)|refine gC ?_|refine gD ?_|refine VIf.mk (fun h=>?_) (fun h=>?_)|refine gO ?_|refine gP ?_|refine VNat.mk _ rfl ?_|refine gV ?_|refine vret_pf rfl ?_|refine vret_take rfl rfl ?_|refine gK ?_)
  all_goals (try (conv=>whnf))
  exact VRet.mk [.fn 223 [] [.bp 1 0,.bp 0 0,.bp 2 0]] [.box 9 [sv s],.box 9 [sv [46]],.box 3 [iv 0]] (by kernel_rfl) ⟨rfl,rfl⟩
theorem index_can (g:List UInt8):Pf C1 225 [sv g,sv [46]] [iv (Lib.indexByte g 46)]:=pf_nat rfl rfl
end Go.Proofs.YtehhihdahalfeaaGreatDoor
namespace Go.Proofs.YtehhihdahalfeaaGreatDoor
open Go Go.Am Go.Gw
theorem qrun_bind {P:Program} {α β:Type} {f:α→Sem β}:∀ {s:Sem α} {a:α},qrun P s=some a→qrun P (s.bind f)=qrun P (f a):=by
  intro s
  induction s with
  |pure x=>intro a h; simp only [qrun,Option.some.injEq] at h; subst h; rfl
  |program k ih=>intro a h; exact ih P h
  |mark m k ih=>intro a h; exact ih h
  |_=>intro a h; simp [qrun] at h
theorem qrun_under {P:Program} {T:TypeId} {d:TypeDesc} (h:P.underlying T=some d):qrun P (underlying T)=some d:=by
  unfold underlying
  simp [bind,Sem.bind,qrun,program,h]
  rfl
theorem slice_hi (g:List UInt8) (i:Nat) (h:i ≤ g.length):strSlice C1.P 9 (str g) none (some (iv i)) none=some (sv (g.take i)):=by
  have h0:(0:Int) ≤ (i:Int)∧(i:Int) ≤ (g.length:Int):=by omega
  have hT:C1.P.underlying 9=some .string:=by kernel_rfl
  have e:qrun C1.P (Instr.sliceAt 9 (str g) none (some (.int .i64 i)) none)=some (str (g.take i)):=by
    unfold Instr.sliceAt
    simp only [bind]
    rw [qrun_bind (qrun_under hT)]
    simp [Instr.slice,Instr.sliceBounds,Instr.sliceBound,asIntOf,ba_size,h0,ba_extract,qrun,bind,Sem.bind]
    rw [qrun_bind (qrun_under hT)]
    simp [pure,Sem.bind,ba_size,h0,ba_extract,qrun,h]
  show (qrun C1.P (Instr.sliceAt 9 (str g) none (some (.int .i64 i)) none)).bind ofVal=_
  rw [e]
  rfl
theorem slice_lo (g:List UInt8) (i:Nat) (h:i ≤ g.length):strSlice C1.P 9 (str g) (some (iv i)) none none=some (sv (g.drop i)):=by
  have h0:(0:Int) ≤ (i:Int)∧(i:Int) ≤ (g.length:Int):=by omega
  have hT:C1.P.underlying 9=some .string:=by kernel_rfl
  have e:qrun C1.P (Instr.sliceAt 9 (str g) (some (.int .i64 i)) none none)=some (str (g.drop i)):=by
    unfold Instr.sliceAt
    simp only [bind]
    rw [qrun_bind (qrun_under hT)]
    simp [Instr.slice,Instr.sliceBounds,Instr.sliceBound,asIntOf,ba_size,h0,ba_extract,qrun,bind,Sem.bind]
    rw [qrun_bind (qrun_under hT)]
    simp [pure,Sem.bind,ba_size,h0,ba_extract,qrun,h]
    try exact List.take_of_length_le (by simp)
  show (qrun C1.P (Instr.sliceAt 9 (str g) (some (.int .i64 i)) none none)).bind ofVal=_
  rw [e]
  rfl
end Go.Proofs.YtehhihdahalfeaaGreatDoor
namespace Go.Proofs.YtehhihdahalfeaaGreatDoor
open Go Go.Am Go.Gw
theorem split_at:∀ (g acc:List UInt8),(Lib.indexByte g 46 = -1∧splitDot acc g=[acc.reverse ++ g])∨(∃ i:Nat,Lib.indexByte g 46=i∧i < g.length∧splitDot acc g=(acc.reverse ++ g.take i) :: splitDot [] (g.drop (i + 1)))
  |[],acc=>.inl ⟨rfl,by simp [splitDot]⟩
  |c :: r,acc=>by
    by_cases hc:(c == 46)=true
    · refine .inr ⟨0,?_,by simp,?_⟩
      · rw [Lib.indexByte,if_pos hc]; try rfl
      · rw [splitDot,if_pos hc]; simp
    · rcases split_at r (c :: acc) with ⟨h1,h2⟩|⟨i,h1,h2,h3⟩
      · refine .inl ⟨?_,?_⟩
        · rw [Lib.indexByte,if_neg hc,h1]; try rfl
        · rw [splitDot,if_neg hc,h2]; simp
      · refine .inr ⟨i + 1,?_,by simp; omega,?_⟩
        · rw [Lib.indexByte,if_neg hc,h1,if_neg (by first|omega|simp)]; try rfl
        · rw [splitDot,if_neg hc,h3]; simp
theorem parts_at (g:List UInt8):(Lib.indexByte g 46 = -1∧partsF g=[g])∨(∃ i:Nat,Lib.indexByte g 46=i∧i < g.length∧partsF g=g.take i :: partsF (g.drop (i + 1))):=by
  simpa [partsF] using split_at g []
/-- the loop's own thing, as the iterator sees it -/
def lpS (s:List UInt8) (v5 v6:Value) (a b:Code) (x:LpS):SO:=.lp [(8,.fn 223 [] [.bp 1 0,.bp 2 0,.bp 3 0]),(7,sv s),(6,.sc v6),(5,.sc v5),(4,sv s),(2,.bp 4 0),(0,sv s)] [9] a b x
/-- what the body answers -/
def BodyOk (s:List UInt8) (v5 v6:Value) (a b:Code):Prop:=∀ (g p:List UInt8),FindsY C1 [.yl 0,sv p] [lpS s v5 v6 a b .ready,.box 9 [sv [46]],.box 9 [sv g],.box 3 [iv 0],.box 4 [bv false]] fun r st =>
  r = .ret [bv (partF p)]∧st=[lpS s v5 v6 a b (if partF p=true then .ready else .done none),.box 9 [sv [46]],.box 9 [sv g],.box 3 [iv 0],.box 4 [bv false]]
set_option maxRecDepth 100000 in
theorem yield_part {s:List UInt8} {v5 v6:Value} {a b:Code} (hY:BodyOk s v5 v6 a b) (g p:List UInt8) {K:AR→Prop}
    (k:K (.val (bv (partF p)) [lpS s v5 v6 a b (if partF p=true then .ready else .done none),.box 9 [sv [46]],.box 9 [sv g],.box 3 [iv 0],.box 4 [bv false]])) :
    VYield C1 0 [sv p] [lpS s v5 v6 a b .ready,.box 9 [sv [46]],.box 9 [sv g],.box 3 [iv 0],.box 4 [bv false]] K:=by
  refine vyield rfl rfl rfl rfl rfl (findsY_mono (hY g p) ?_)
  rintro _ _ ⟨rfl,rfl⟩
  exact vback rfl k
set_option maxRecDepth 100000 in
theorem iter_can (s:List UInt8) (hs:s.length ≤ 140737488355328) (v5 v6:Value) (a b:Code) (hY:BodyOk s v5 v6 a b):Finds C1 223 [.yl 0,.bp 1 0,.bp 2 0,.bp 3 0] [lpS s v5 v6 a b .ready,.box 9 [sv [46]],.box 9 [sv s],.box 3 [iv 0],.box 4 [bv false]] fun r st =>
    r = .ret []∧∃ g,st=[lpS s v5 v6 a b (if (partsF s).all partF=true then .ready else .done none),.box 9 [sv [46]],.box 9 [sv g],.box 3 [iv 0],.box 4 [bv false]]:=by
  refine run_intro Tryz.func223 rfl rfl rfl ?_
  repeat' ((conv=>whnf);first|refine gT ?_|refine gF ?_|refine VIf.not ?_|refine gA ?_|refine gB ?_|refine VIf.dec (fun h=>?_) (fun h=>?_)|refine gC ?_|refine gD ?_|refine VIf.mk (fun h=>?_) (fun h=>?_)|refine gO ?_|refine gP ?_|refine VNat.mk _ rfl ?_|refine gV ?_|refine vret_pf rfl ?_|refine vret_take rfl rfl ?_|refine gK ?_)
  all_goals (try (conv=>whnf))
  refine loop_over (G:=List UInt8) (fun _=>[]) (fun g=>[_,.box 9 [sv [46]],.box 9 [sv g],.box 3 [iv 0],.box 4 [bv false]]) (fun g=>g.length ≤ s.length∧(partsF g).all partF=(partsF s).all partF) (fun g=>g.length) s ⟨by omega,rfl⟩ rfl rfl ?_
  rintro g ⟨hg,hall⟩
  have hix:=index_can g
  repeat' ((conv=>whnf);first|refine gT ?_|refine gF ?_|refine VIf.not ?_|refine gA ?_|refine gB ?_|refine VIf.dec (fun h=>?_) (fun h=>?_)|refine gC ?_|refine gD ?_|refine VIf.mk (fun h=>?_) (fun h=>?_)|refine gO ?_|refine gP ?_|refine VNat.mk _ rfl ?_|refine gV ?_|refine vret_pf rfl ?_|refine vret_take rfl rfl ?_|refine vcall_pf hix rfl rfl ?_|refine gK ?_)
  all_goals (try (conv=>whnf))
  · refine yield_part hY g g ?_
    repeat' ((conv=>whnf);first|refine gT ?_|refine gF ?_|refine VIf.not ?_|refine gA ?_|refine gB ?_|refine VIf.dec (fun h=>?_) (fun h=>?_)|refine gC ?_|refine gD ?_|refine VIf.mk (fun h=>?_) (fun h=>?_)|refine gO ?_|refine gP ?_|refine VNat.mk _ rfl ?_|refine gV ?_|refine vret_pf rfl ?_|refine vret_take rfl rfl ?_|refine gK ?_)
    all_goals (try (conv=>whnf))
    have e:partF g=(partsF s).all partF:=by
      rcases parts_at g with ⟨h1,h2⟩|⟨i,h1,_⟩
      · rw [← hall,h2]
        simp
      · omega
    refine ⟨rfl,g,?_⟩
    rw [← e]
    rfl
  · obtain ⟨i,h1,h2,h3⟩:∃ i:Nat,Lib.indexByte g 46=i∧i < g.length∧partsF g=g.take i :: partsF (g.drop (i + 1)):=(parts_at g).resolve_left (fun e=>by omega)
    rw [h1] at hix
    rw [h1]
    have hs1:=slice_hi g i (by omega)
    have hs2:=slice_lo g (i + 1) (by omega)
    refine VArith.fits (by unfold i64; omega) ?_
    rw [Int.add_zero]
    repeat' ((conv=>whnf);first|refine gT ?_|refine gF ?_|refine VIf.not ?_|refine gA ?_|refine gB ?_|refine VIf.dec (fun h=>?_) (fun h=>?_)|refine gC ?_|refine gD ?_|refine VIf.mk (fun h=>?_) (fun h=>?_)|refine gO ?_|refine gP ?_|refine VNat.mk _ rfl ?_|refine gV ?_|refine vret_pf rfl ?_|refine vret_take rfl rfl ?_|refine VRes.mk _ hs1 ?_|refine gK ?_)
    all_goals (try (conv=>whnf))
    refine yield_part hY g (g.take i) ?_
    repeat' ((conv=>whnf);first|refine gT ?_|refine gF ?_|refine VIf.not ?_|refine gA ?_|refine gB ?_|refine VIf.dec (fun h=>?_) (fun h=>?_)|refine gC ?_|refine gD ?_|refine VIf.mk (fun h=>?_) (fun h=>?_)|refine gO ?_|refine gP ?_|refine VNat.mk _ rfl ?_|refine gV ?_|refine vret_pf rfl ?_|refine vret_take rfl rfl ?_|refine gK ?_)
    all_goals (try (conv=>whnf))
    · refine VArith.fits (by
        show i64 ((i:Int) + ((1:Nat):Int))
        unfold i64
        omega) ?_
      repeat' ((conv=>whnf);first|refine gT ?_|refine gF ?_|refine VIf.not ?_|refine gA ?_|refine gB ?_|refine VIf.dec (fun h=>?_) (fun h=>?_)|refine gC ?_|refine gD ?_|refine VIf.mk (fun h=>?_) (fun h=>?_)|refine gO ?_|refine gP ?_|refine VNat.mk _ rfl ?_|refine gV ?_|refine vret_pf rfl ?_|refine vret_take rfl rfl ?_|refine VRes.mk _ hs2 ?_|refine gK ?_)
      all_goals (try (conv=>whnf))
      refine VAgain.mk _ rfl _ (gc_same rfl) ⟨g.drop (i + 1),⟨by simp; omega,?_⟩,by simp; omega,by rw [if_pos h]; rfl⟩
      rw [← hall,h3,List.all_cons,h]
      rfl
    · have e:(partsF s).all partF=false:=by
        rw [← hall,h3,List.all_cons,h]
        rfl
      refine ⟨rfl,g,?_⟩
      rw [e,if_neg (by rw [h]; exact Bool.false_ne_true)]
      rfl
end Go.Proofs.YtehhihdahalfeaaGreatDoor
namespace Go.Proofs.YtehhihdahalfeaaGreatDoor
open Go Go.Am Go.Gw
set_option maxHeartbeats 2000000 in
set_option maxRecDepth 100000 in
theorem nameRight_can (s:List UInt8) (hs:s.length ≤ 140737488355328):Pf C1 125 [sv s] [bv (nameF s)]:=by
  refine run_intro Tryz.func125 rfl rfl rfl ?_
  repeat' ((conv=>whnf);first|refine gT ?_|refine gF ?_|refine VIf.not ?_|refine gA ?_|refine gB ?_|refine VIf.dec (fun h=>?_) (fun h=>?_)|refine gC ?_|refine gD ?_|refine VIf.mk (fun h=>?_) (fun h=>?_)|refine gO ?_|refine gP ?_|refine VNat.mk _ rfl ?_|refine gV ?_|refine vret_pf rfl ?_|refine vret_take rfl rfl ?_|refine gK ?_)
  all_goals (try (conv=>whnf))
  · have:¬ s.length ≤ 40:=by simp [ba_size] at *; omega
    rw [nameF,decide_eq_false this]
    rfl
  · have h40:s.length ≤ 40:=by simp [ba_size] at *; omega
    refine vcall_made rfl (Finds.mono (SplitSeq_can s) ?_)
    rintro _ _ ⟨rfl,rfl⟩
    refine ⟨rfl,vback rfl ?_⟩
    repeat' ((conv=>whnf);first|refine gT ?_|refine gF ?_|refine VIf.not ?_|refine gA ?_|refine gB ?_|refine VIf.dec (fun h=>?_) (fun h=>?_)|refine gC ?_|refine gD ?_|refine VIf.mk (fun h=>?_) (fun h=>?_)|refine gO ?_|refine gP ?_|refine VNat.mk _ rfl ?_|refine gV ?_|refine vret_pf rfl ?_|refine vret_take rfl rfl ?_|refine gK ?_)
    all_goals (try (conv=>whnf))
    refine vcall_st rfl rfl rfl rfl rfl rfl (Finds.mono (iter_can s hs _ _ _ _ ?_) ?_)
    · intro g p
      have hpt:=part_can p
      refine yield_intro rfl rfl ?_
      repeat' ((conv=>whnf);first|refine gT ?_|refine gF ?_|refine VIf.not ?_|refine gA ?_|refine gB ?_|refine VIf.dec (fun h=>?_) (fun h=>?_)|refine gC ?_|refine gD ?_|refine VIf.mk (fun h=>?_) (fun h=>?_)|refine gO ?_|refine gP ?_|refine VNat.mk _ rfl ?_|refine gV ?_|refine vret_pf rfl ?_|refine vret_take rfl rfl ?_|refine vcall_pf hpt rfl rfl ?_|refine gK ?_)
      all_goals (try (conv=>whnf))
      · exact ⟨by rw [h],by rw [if_pos h]; rfl⟩
      · exact ⟨by rw [h],by rw [if_neg (by rw [h]; exact Bool.false_ne_true)]; rfl⟩
    · rintro _ _ ⟨rfl,g,rfl⟩
      refine vback rfl ?_
      by_cases hpp:(partsF s).all partF=true
      · have hnm:nameF s=true:=by rw [nameF,decide_eq_true h40,hpp]; rfl
        rw [if_pos hpp]
        repeat' ((conv=>whnf);first|refine gT ?_|refine gF ?_|refine VIf.not ?_|refine gA ?_|refine gB ?_|refine VIf.dec (fun h=>?_) (fun h=>?_)|refine gC ?_|refine gD ?_|refine VIf.mk (fun h=>?_) (fun h=>?_)|refine gO ?_|refine gP ?_|refine VNat.mk _ rfl ?_|refine gV ?_|refine vret_pf rfl ?_|refine vret_take rfl rfl ?_|refine gK ?_)
        all_goals (try (conv=>whnf))
        rw [hnm]
      · have hnm:nameF s=false:=by rw [nameF,Bool.eq_false_iff.2 hpp,Bool.and_false]
        rw [if_neg hpp]
        repeat' ((conv=>whnf);first|refine gT ?_|refine gF ?_|refine VIf.not ?_|refine gA ?_|refine gB ?_|refine VIf.dec (fun h=>?_) (fun h=>?_)|refine gC ?_|refine gD ?_|refine VIf.mk (fun h=>?_) (fun h=>?_)|refine gO ?_|refine gP ?_|refine VNat.mk _ rfl ?_|refine gV ?_|refine vret_pf rfl ?_|refine vret_take rfl rfl ?_|refine gK ?_)
        all_goals (try (conv=>whnf))
        rw [hnm]
        rfl
def AnyName (s:List UInt8):Prop:=s.length ≤ 140737488355328
theorem names_ok:NmOk AnyName:=fun s hs=>nameRight_can s hs
end Go.Proofs.YtehhihdahalfeaaGreatDoor

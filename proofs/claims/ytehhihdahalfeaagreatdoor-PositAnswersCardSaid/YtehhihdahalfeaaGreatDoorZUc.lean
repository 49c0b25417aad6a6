/-
  Terms with others in their variables' places: bind.Inst. No statement of the seat.
-/
import Derived.Test.YtehhihdahalfeaaGreatDoorZTj
import Derived.Test.YtehhihdahalfeaaGreatDoorZUd
set_option linter.unusedVariables false
set_option linter.unusedSimpArgs false
set_option linter.unnecessarySimpa false
namespace Go.Proofs.YtehhihdahalfeaaGreatDoor
open Go Go.Am Go.Gw
/-- what is handed over is free of the store once it is handed over -/
theorem vcall_hand {C:Cfg} {f:FuncId} {args args' rs:List PV} {st st':Sto} {K:AEnd→Sto→Prop} (hw:handed C f args st=some (args',st')) (hp:args'.all (pur 8)=true) (h:Pf C f args' rs) (hr:rs.all (pur 8)=true) (k:K (.ret rs) st'):VCall C f args st K:=by
  obtain ⟨r,st1,rfl,N,hN⟩:=h
  refine ⟨.ret rs,st',k,N,fun m hm=>?_⟩
  have h4:endPur (.ret rs)=true:=hr
  rw [acallS_eq hw]
  simp only [hp,hN m hm,h4]
/- the first of terms that is as told -/
def idxT (p:Tm→Bool):List Tm→Nat→Int
  |[],_=>-1
  |t :: r,i=>if p t=true then i else idxT p r (i + 1)
theorem idxT_any (p:Tm→Bool):∀ (ts:List Tm) (i:Nat),decide (0 ≤ idxT p ts i)=ts.any p
  |[],i=>by simp [idxT]
  |t :: r,i=>by
    rw [idxT,List.any_cons]
    by_cases h:p t=true
    · rw [if_pos h,h]
      simp
    · rw [if_neg h,idxT_any p r,Bool.eq_false_iff.2 h]
      simp
def InstF (t:Tm) (us:List Tm):Option Tm:=if anyT t=true∧us.length ≤ 1048576∧us.all anyT=true then madeF (insF us) t else none
end Go.Proofs.YtehhihdahalfeaaGreatDoor
namespace Go.Proofs.YtehhihdahalfeaaGreatDoor
open Go Go.Am Go.Gw
/- where a text stands among texts -/
def findS (s:List UInt8):List (List UInt8)→Nat→Int
  |[],_=>-1
  |c :: r,i=>if s=c then i else findS s r (i + 1)
theorem findS_mem (s:List UInt8):∀ (ns:List (List UInt8)) (i:Nat),decide (0 ≤ findS s ns i)=decide (s ∈ ns)
  |[],i=>by simp [findS]
  |c :: r,i=>by
    rw [findS]
    by_cases h:s=c
    · rw [if_pos h]
      simp [h]
    · rw [if_neg h,findS_mem s r (i + 1)]
      simp [h]
set_option maxRecDepth 100000 in
theorem idxS_can (s:List UInt8) (ns:List (List UInt8)) (b:Bool) (z:Nat) (hz:z=1∨ns=[]) (hbd:ns.length ≤ 8796093022208):Pf C1 88 [.sl b z (svs ns),sv s] [iv (findS s ns 0)]:=by
  have hln:(svs ns).length=ns.length:=by simp
  refine run_intro Tryz.func88 rfl rfl rfl ?_
  repeat' ((conv=>whnf);first|refine gT ?_|refine gF ?_|refine VIf.not ?_|refine gA ?_|refine gB ?_|refine VIf.dec (fun h=>?_) (fun h=>?_)|refine gC ?_|refine gD ?_|refine VIf.mk (fun h=>?_) (fun h=>?_)|refine gO ?_|refine gP ?_|refine VNat.mk _ rfl ?_|refine gV ?_|refine vret_pf rfl ?_|refine vret_take rfl rfl ?_|refine gK ?_)
  all_goals (try (conv=>whnf))
  refine loop_over (G:=Nat) (fun i=>[(8,iv i)]) (fun _=>_) (fun i=>i ≤ ns.length∧findS s (ns.drop i) i=findS s ns 0) (fun i=>ns.length - i) 0 ⟨by omega,rfl⟩ rfl rfl ?_
  rintro i ⟨hi,hall⟩
  dsimp only at hi hall ⊢
  repeat' ((conv=>whnf);first|refine gT ?_|refine gF ?_|refine VIf.not ?_|refine gA ?_|refine gB ?_|refine VIf.dec (fun h=>?_) (fun h=>?_)|refine gC ?_|refine gD ?_|refine VIf.mk (fun h=>?_) (fun h=>?_)|refine gO ?_|refine gP ?_|refine VNat.mk _ rfl ?_|refine gV ?_|refine vret_pf rfl ?_|refine vret_take rfl rfl ?_|refine gK ?_)
  all_goals (try (conv=>whnf))
  · have hi':i < ns.length:=by omega
    obtain ⟨c,hc⟩:∃ c,ns[i]? = some c:=⟨_,List.getElem?_eq_getElem hi'⟩
    rw [drop_at hc,findS] at hall
    repeat' ((conv=>whnf);first|refine gT ?_|refine gF ?_|refine VIf.not ?_|refine gA ?_|refine gB ?_|refine VIf.dec (fun h=>?_) (fun h=>?_)|refine gC ?_|refine gD ?_|refine VIf.mk (fun h=>?_) (fun h=>?_)|refine gO ?_|refine gP ?_|refine VNat.mk _ rfl ?_|refine gV ?_|refine vret_pf rfl ?_|refine vret_take rfl rfl ?_|refine VIdx.mk _ (svs_at hc) ?_|refine VOk.mk (szOk_of rfl (svs_nil hz)) ?_|refine vres_str ?_|refine gK ?_)
    all_goals (try (conv=>whnf))
    · rw [if_pos (by simpa using h)] at hall
      rw [← hall]
    · rw [if_neg (by simpa using h)] at hall
      exact VAgain.mk _ rfl _ (gc_take rfl rfl rfl) ⟨i + 1,⟨hi',hall⟩,by omega,rfl⟩
  · rw [List.drop_of_length_le (by omega),findS] at hall
    rw [← hall]
def absF (ns:List (List UInt8)) (t:Tm) (d:Int):Option Tm:=if t.kind=3∧0 ≤ findS t.name ns 0 then some (.mk 1 ((ns.length:Int) - 1 - findS t.name ns 0 + d) [] [] []) else movF ns.length 0 t d
def absP (b:Bool) (z:Nat) (ns:List (List UInt8)):PV:=.fn 92 [] [.cp [.sl b z (svs ns)],.cp [iv (svs ns).length],.cp [movedP (svs ns).length 0]]
end Go.Proofs.YtehhihdahalfeaaGreatDoor
namespace Go.Proofs.YtehhihdahalfeaaGreatDoor
open Go Go.Am Go.Gw
end Go.Proofs.YtehhihdahalfeaaGreatDoor

/-
  Terms whose loose variables are raised: plain lemmas, and bind.Lift. No statement of the seat.
-/
import Derived.Test.YtehhihdahalfeaaGreatDoorZNl
import Derived.Test.YtehhihdahalfeaaGreatDoorZUf
set_option linter.unusedVariables false
set_option linter.unusedSimpArgs false
set_option linter.unnecessarySimpa false
namespace Go.Proofs.YtehhihdahalfeaaGreatDoor
open Go Go.Am Go.Gw
theorem movF_kind {b f:Int} {t:Tm} {d:Int} {x:Tm} (h:movF b f t d=some x):t.kind=1∧x = .mk 1 (t.num + b) [] [] []:=by
  unfold movF at h
  split at h
  · rename_i h1
    cases h
    exact ⟨h1.1,rfl⟩
  · cases h
mutual
theorem allT_mov {b:Int} (hb:0 ≤ b):∀ (t:Tm) (p kk d:Int),allT t p kk=true→0 ≤ d→d ≤ kk→allT (plF (movF b 0) t d) p (kk + b)=true
  | .mk k n s ls ts,p,kk,d,ha,hd,hk0=>by
    obtain ⟨hk,hl,hnd,hls,hts⟩:=allT_parts ha
    obtain ⟨ha1,ha2⟩:=args_of ha
    cases hp:movF b 0 (.mk k n s ls ts) d with
    |some x =>
      rw [plF,plN_put hp]
      obtain ⟨h1,rfl⟩:=movF_kind hp
      have hv:=nodeT_var hnd h1
      simp only [Tm.num]
      exact allT_var (by omega) (by omega)
    |none =>
      by_cases h4:4 ≤ k
      · obtain ⟨rfl,rfl,rfl⟩:=nodeT_deep hnd h4
        rw [plF,plN_node hp (ha2 h4)]
        exact allT_intro hk (by rw [plFs_length]; exact hl) (nodeT_arg hnd (show ¬ k=1 by omega)) hls (allTs_mov hb ts k 0 p kk d hts hd hk0)
      · obtain rfl:=ha1 (by omega)
        rw [plF,plN_leaf hp rfl]
        exact allT_mono _ p kk _ ha (by omega)
theorem allTs_mov {b:Int} (hb:0 ≤ b):∀ (ts:List Tm) (k i p kk d:Int),allTs ts k i p kk=true→0 ≤ d→d ≤ kk→allTs (plFs (movF b 0) ts k i d) k i p (kk + b)=true
  |[],k,i,p,kk,d,ha,hd,hk0=>by simp [plFs,allTs]
  |t :: r,k,i,p,kk,d,ha,hd,hk0=>by
    simp only [allTs,Bool.and_eq_true] at ha
    simp only [plFs,allTs,Bool.and_eq_true]
    have hi:=innerF_bd (shBinds k) i d
    refine ⟨?_,allTs_mov hb r k (i + 1) p kk d ha.2 hd hk0⟩
    rw [inner_add]
    refine allT_mov hb t p _ _ ha.1 (by omega) ?_
    unfold innerF
    split <;> omega
end
mutual
theorem consts_mov {b:Int}:∀ (t:Tm) (p kk d:Int),allT t p kk=true→constsT (plF (movF b 0) t d)=constsT t
  | .mk k n s ls ts,p,kk,d,ha=>by
    obtain ⟨hk,hl,hnd,hls,hts⟩:=allT_parts ha
    obtain ⟨ha1,ha2⟩:=args_of ha
    cases hp:movF b 0 (.mk k n s ls ts) d with
    |some x =>
      rw [plF,plN_put hp]
      obtain ⟨h1,rfl⟩:=movF_kind hp
      simp only [Tm.kind] at h1
      obtain rfl:=ha1 (by omega)
      simp [constsT,constsTs,h1]
    |none =>
      by_cases h4:4 ≤ k
      · obtain ⟨rfl,rfl,rfl⟩:=nodeT_deep hnd h4
        rw [plF,plN_node hp (ha2 h4)]
        simp [constsT,Tm.kind,show ¬ k=3 by omega,consts_movs (b:=b) ts k 0 p kk d hts]
      · obtain rfl:=ha1 (by omega)
        rw [plF,plN_leaf hp rfl]
theorem consts_movs {b:Int}:∀ (ts:List Tm) (k i p kk d:Int),allTs ts k i p kk=true→constsTs (plFs (movF b 0) ts k i d)=constsTs ts
  |[],k,i,p,kk,d,ha=>by simp [plFs,constsTs]
  |t :: r,k,i,p,kk,d,ha=>by
    simp only [allTs,Bool.and_eq_true] at ha
    simp only [plFs,constsTs,consts_mov t p _ _ ha.1,consts_movs r k (i + 1) p kk d ha.2]
end
mutual
theorem allF_more {p q:Int} (hpq:p ≤ q):∀ l:Lv,allF l p=true→allF l q=true
  | .mk k n ls,h=>by
    simp only [allF,Bool.and_eq_true] at h ⊢
    refine ⟨?_,allFs_more hpq ls h.2⟩
    have h1:=h.1
    simp only [nodeF] at h1 ⊢
    by_cases hw:(ls.length:Int)=wideF k <;> by_cases k1:k=1 <;> by_cases k2:k=2 <;> simp_all <;> omega
theorem allFs_more {p q:Int} (hpq:p ≤ q):∀ ls:List Lv,allFs ls p=true→allFs ls q=true
  |[],_=>rfl
  |l :: r,h=>by
    simp only [allFs,Bool.and_eq_true] at h ⊢
    exact ⟨allF_more hpq l h.1,allFs_more hpq r h.2⟩
end
theorem rightLs_more {p q:Int} (hpq:p ≤ q) (hq:q ≤ 4):∀ ls:List Lv,rightLs ls p=true→rightLs ls q=true
  |[],_=>rfl
  |l :: r,h=>by
    simp only [rightLs,rightF,Bool.and_eq_true,decide_eq_true_eq] at h ⊢
    obtain ⟨⟨h1,h2,h3,h4⟩,h5⟩:=h
    exact ⟨⟨by omega,hq,h3,allF_more hpq l h4⟩,rightLs_more hpq hq r h5⟩
mutual
theorem allT_more {p q:Int} (hpq:p ≤ q) (hq:q ≤ 4):∀ (t:Tm) (kk:Int),allT t p kk=true→allT t q kk=true
  | .mk k n s ls ts,kk,ha=>by
    obtain ⟨hk,hl,hnd,hls,hts⟩:=allT_parts ha
    exact allT_intro hk hl hnd (rightLs_more hpq hq ls hls) (allTs_more hpq hq ts k 0 kk hts)
theorem allTs_more {p q:Int} (hpq:p ≤ q) (hq:q ≤ 4):∀ (ts:List Tm) (k i kk:Int),allTs ts k i p kk=true→allTs ts k i q kk=true
  |[],k,i,kk,ha=>by simp [allTs]
  |t :: r,k,i,kk,ha=>by
    simp only [allTs,Bool.and_eq_true] at ha ⊢
    exact ⟨allT_more hpq hq t _ ha.1,allTs_more hpq hq r k (i + 1) kk ha.2⟩
end
theorem rightT_parts {t:Tm} {p kk:Int} (h:rightT t p kk=true):(0 ≤ p∧p ≤ 4)∧0 ≤ kk∧nodesT t ≤ 2000∧allT t p (min kk 1125899906842624)=true:=by
  simpa [rightT,and_assoc] using h
theorem rightT_any {t:Tm} {p kk:Int} (h:rightT t p kk=true):anyT t=true:=by
  obtain ⟨h1,h2,h3,h4⟩:=rightT_parts h
  have h5:=allT_more h1.2 (Int.le_refl _) t _ h4
  have h6:=allT_mono t 4 _ 1125899906842624 h5 (by omega)
  simp [anyT,rightT,h3,h6]
/-- a term lifted -/
def LiftF (t:Tm) (by_ from_:Int):Option Tm:=if anyT t=true∧(0 ≤ by_∧by_ ≤ 1048576)∧(0 ≤ from_∧from_ ≤ 1048576) then madeF (movF by_ from_) t else none
end Go.Proofs.YtehhihdahalfeaaGreatDoor

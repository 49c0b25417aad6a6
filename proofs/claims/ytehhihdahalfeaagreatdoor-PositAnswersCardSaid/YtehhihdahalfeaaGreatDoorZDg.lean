/-
  Settings in which what is stored is published, with all other functions at their word; and the plain law of PositForms. No statement of the seat.
-/
import Derived.Test.YtehhihdahalfeaaGreatDoorZDf
import Derived.Test.YtehhihdahalfeaaGreatDoorZUm
set_option linter.unusedVariables false
set_option linter.unusedSimpArgs false
set_option linter.unnecessarySimpa false
namespace Go.Am
open Go Go.Hb
section
variable {C:Cfg}
open Classical in
/-- what a function does there, as a word -/
noncomputable def natOf (C:Cfg) (f:FuncId) (args:List PV) (st:Sto):Option (AEnd × Sto):=if h:∃ q,∃ n,(ev C n).call f args st=some q then some h.choose else none
theorem natOf_eq {f:FuncId} {args:List PV} {st:Sto} {q:AEnd × Sto} {n:Nat} (h:(ev C n).call f args st=some q):natOf C f args st=some q:=by
  have hx:∃ q,∃ n,(ev C n).call f args st=some q:=⟨q,n,h⟩
  unfold natOf
  rw [dif_pos hx]
  obtain ⟨k,hk⟩:=hx.choose_spec
  have h1:=ev_call (r:=hx.choose) hk (Nat.le_max_left k n)
  have h2:=ev_call (r:=q) h (Nat.le_max_right k n)
  exact h1.symm.trans h2
theorem natOf_some {f:FuncId} {args:List PV} {st:Sto} {r:AEnd} {st':Sto} (h:natOf C f args st=some (r,st')):∃ n,(ev C n).call f args st=some (r,st'):=by
  unfold natOf at h
  split at h
  · rename_i hx
    obtain ⟨k,hk⟩:=hx.choose_spec
    rw [Option.some.inj h] at hk
    exact ⟨k,hk⟩
  · cases h
theorem natOf_does (hC:∀ n,CallOk C.P (ev C n).call) (f:FuncId):DoesOk (CallD C.P f) (natOf C f):=does_of (C':=C) (C:=C) rfl hC fun _ _ _ _ h=>natOf_some h
theorem pf_word {C':Cfg} {f:FuncId} {args rs:List PV} (hn:C'.nat f=some (natOf C f)) (h:Pf C f args rs):Pf C' f args rs:=by
  obtain ⟨r,st',rfl,N,hN⟩:=h
  exact pf_at hn (natOf_eq (hN N (Nat.le_refl N)))
end
end Go.Am
namespace Go.Proofs.YtehhihdahalfeaaGreatDoor
open Go Go.Am Go.Gw
/-- PositForms alone is gone through; terms are published where they are stored -/
noncomputable def C2:Cfg:=⟨C1.P,C1.fz,C1.raw,C1.keep,C1.lit,fun f=>match Nat.beq f 5 with
  |true=>none
  |false=>some (natOf C1 f),C1.fzc,fun T=>Nat.beq T 25,false⟩
/-! the plain law -/
def pisT:List Tm→Tm→Tm
  |[],b=>b
  |a :: l,b=>pi_ a (pisT l b)
def appsT:Tm→List Tm→Tm
  |h,[]=>h
  |h,a :: r=>appsT (ap h a) r
theorem appsT_snoc:∀ (l:List Tm) (h a:Tm),appsT h (l ++ [a])=ap (appsT h l) a
  |[],h,a=>rfl
  |b :: r,h,a=>appsT_snoc r (ap h b) a
theorem node_plain {k n:Int} {s:List UInt8} {ls:List Lv} {ts:List Tm} {p kk:Int} (h:allT (.mk k n s ls ts) p kk=true) (hk:k=4∨k=6):n=0∧s=[]∧ls=[]:=by
  obtain ⟨-,-,hnode,-,-⟩:=allT_parts h
  have h1:¬ k=1:=by omega
  have h3:¬ k=3:=by omega
  have h2:shLevels k=0:=by unfold shLevels; rw [if_neg (by omega)]
  simp only [nodeT,if_neg h1,if_neg h3,h2,Bool.and_eq_true,decide_eq_true_eq,beq_iff_eq] at hnode
  obtain ⟨e1,e2,e3⟩:=hnode
  exact ⟨e1,e2,List.eq_nil_of_length_eq_zero (by omega)⟩
theorem pisT_eq:∀ (t:Tm) (p kk:Int),allT t p kk=true→pisT (piF t).1 (piF t).2=t
  | .mk k n s ls ts,p,kk,h=>by
    by_cases hk:k=6
    · obtain ⟨a,b,rfl,ha,hb⟩:=allT_two h hk
      subst hk
      obtain ⟨rfl,rfl,rfl⟩:=node_plain h (.inr rfl)
      rw [piF_pi,pisT,pisT_eq b p (kk + 1) hb]
      rfl
    · rw [piF_off hk,pisT]
theorem appsT_eq:∀ (t:Tm) (p kk:Int),allT t p kk=true→appsT (spF t).1 (spF t).2.reverse=t
  | .mk k n s ls ts,p,kk,h=>by
    by_cases hk:k=4∧ts.length=2
    · obtain ⟨rfl,h2⟩:=hk
      match ts,h2 with
      |[f,a],_ =>
        obtain ⟨rfl,rfl,rfl⟩:=node_plain h (.inl rfl)
        have hats:=(allT_parts h).2.2.2.2
        have hf:=allTs_at hats (by rfl:[f,a][0]? = some f)
        rw [spF_app,List.reverse_cons,appsT_snoc,appsT_eq f _ _ hf]
        rfl
    · rw [spF_off hk]
      rfl
theorem spF_all (t:Tm):∀ p kk,allT t p kk=true→(∀ a ∈ (spF t).2,allT a p kk=true)∧allT (spF t).1 p kk=true:=by
  induction t using Tm.ind with
  |_ k n s ls ts ih =>
  intro p kk h
  by_cases hk:k=4∧ts.length=2
  · obtain ⟨rfl,h2⟩:=hk
    match ts,h2 with
    |[f,a],_ =>
      have hats:=(allT_parts h).2.2.2.2
      have hf:=allTs_at hats (by rfl:[f,a][0]? = some f)
      have ha:=allTs_at hats (by rfl:[f,a][1]? = some a)
      have e:∀ i:Int,innerF (shBinds 4) i kk=kk∨i = -1:=fun i=>by
        unfold innerF
        have:shBinds 4 = -1:=by decide
        rw [this]
        split
        · rename_i h9
          exact .inr h9
        · exact .inl rfl
      have hf':allT f p kk=true:=by
        rcases e (0 + ((0:Nat):Int)) with h1|h1
        · rw [h1] at hf; exact hf
        · omega
      have ha':allT a p kk=true:=by
        rcases e (0 + ((1:Nat):Int)) with h1|h1
        · rw [h1] at ha; exact ha
        · omega
      obtain ⟨h3,h4⟩:=ih f (by simp) p kk hf'
      rw [spF_app]
      refine ⟨fun b hb=>?_,h4⟩
      rcases List.mem_cons.1 hb with rfl|hb
      · exact ha'
      · exact h3 b hb
  · rw [spF_off hk]
    exact ⟨fun a ha=>by simp at ha,h⟩
theorem var_plain {t:Tm} {p kk:Int} (h:allT t p kk=true) (hk:t.kind=1):t=vr t.num:=by
  obtain ⟨k,n,s,ls,ts⟩:=t
  have hk:k=1:=hk
  subst hk
  obtain ⟨-,hlen,hnode,-,-⟩:=allT_parts h
  simp only [nodeT,if_pos,Bool.and_eq_true,decide_eq_true_eq,beq_iff_eq] at hnode
  obtain ⟨-,-,e2,e3⟩:=hnode
  subst e2
  have e4:ls=[]:=List.eq_nil_of_length_eq_zero (by omega)
  have e5:shArgs 1=0:=by decide
  rw [e5] at hlen
  have e6:ts=[]:=List.eq_nil_of_length_eq_zero (by omega)
  subst e4 e6
  rfl
def varsL (deep:Int) (i:Nat) (n:Nat):List Tm:=(List.range n).map fun j=>vr (deep - 1 - ((i + j:Nat):Int))
theorem owns_vars {deep:Int}:∀ (l:List Tm) (i:Nat),(∀ a ∈ l,∃ p kk,allT a p kk=true)→ownsF deep l i=true→l=varsL deep i l.length
  |[],i,_,_=>rfl
  |t :: r,i,hl,h=>by
    simp only [ownsF,Bool.and_eq_true,decide_eq_true_eq] at h
    obtain ⟨⟨h1,h2⟩,h3⟩:=h
    obtain ⟨p,kk,ha⟩:=hl t (by simp)
    have hr:=owns_vars r (i + 1) (fun a ha=>hl a (by simp [ha])) h3
    have hv:=var_plain ha h1
    rw [varsL,List.length_cons,List.range_succ_eq_map,List.map_cons,List.map_map]
    congr 1
    · rw [hv,h2]
      simp [Tm.num,vr]
    · refine hr.trans ?_
      unfold varsL
      refine List.map_congr_left fun j _=>?_
      simp only [Function.comp]
      congr 1
      omega
theorem armsL_nonneg {nm:List UInt8} {self:Tm} {fx idx deep:Int}:∀ (t:Tm) (c:Int),0 ≤ c→0 ≤ (armsL nm self fx idx deep t c).1
  | .mk k n s ls ts,c,hc=>by
    by_cases hk:k=6
    · subst hk
      match ts with
      |[a,b] =>
        rw [armsL_pi]
        split
        · exact Int.le_refl 0
        · exact armsL_nonneg b (c + 1) (by omega)
      |[]=>simp only [armsL]; split <;> simp [hc]
      |[_]=>simp only [armsL]; split <;> simp [hc]
      |_ :: _ :: _ :: _=>simp only [armsL]; split <;> simp [hc]
    · rw [armsL_end hk]
      split <;> simp [hc]
theorem armsF_sign {nm:List UInt8} {self:Tm} {fx idx deep:Int} (t:Tm):decide (0 ≤ (armsF nm self fx idx deep t).1)=stF nm t:=by
  unfold armsF
  split
  · rename_i h
    rw [h,decide_eq_true (armsL_nonneg t 0 (Int.le_refl 0))]
  · rename_i h
    rw [Bool.eq_false_iff.2 h]
    rfl
theorem armsA_all {nm:List UInt8} {self:Tm} {fx idx:Int}:∀ (fs:List Tm) (deep:Int) (l:List Int),armsA nm self fx idx fs deep=some l→l.length=fs.length∧∀ (k:Nat) a f,l[k]? = some a→fs[k]? = some f→decide (0 ≤ a)=stF nm f
  |[],deep,l,h=>by
    simp only [armsA,Option.some.injEq] at h
    subst h
    exact ⟨rfl,fun k a f h=>by simp at h⟩
  |t :: r,deep,l,h=>by
    rw [armsA] at h
    split at h
    · obtain ⟨q,hq,rfl⟩:=Option.map_eq_some_iff.1 h
      obtain ⟨h1,h2⟩:=armsA_all r (deep + 1) q hq
      refine ⟨by simp [h1],fun k a f ha hf=>?_⟩
      cases k with
      |zero =>
        simp at ha hf
        subst ha hf
        exact armsF_sign t
      |succ k=>exact h2 k a f (by simpa using ha) (by simpa using hf)
    · cases h
/-- what a constructor that has a form is -/
theorem ctor_facts {nm:List UInt8} {self t:Tm} {p idx:Int} {f:Nat} {co:Co} (hr:rightT t p 0=true) (hidx:0 ≤ idx) (h:ctorF nm self f idx t=(0,co)) :
    f ≤ (piF t).1.length∧co.fs=(piF t).1.drop f∧co.fs.length ≤ 16∧co.ar.length=co.fs.length∧(co.tg.length:Int)=idx∧(∀ a ∈ co.tg,stF nm a=false)∧(∀ (k:Nat) a g,co.ar[k]? = some a→co.fs[k]? = some g→decide (0 ≤ a)=stF nm g) ∧
      t=pisT (piF t).1 (appsT self (varsL (piF t).1.length 0 f ++ co.tg)):=by
  obtain ⟨-,-,-,hall⟩:=rightT_parts hr
  rw [show min (0:Int) 1125899906842624=0 by omega] at hall
  have hpis:=pisT_eq t p 0 hall
  have hbody:=(piF_body t p 0 hall).1
  have happ:=appsT_eq _ _ _ hbody
  have hsp:=spF_all _ _ _ hbody
  rw [ctorF_eq,Int.toNat_natCast] at h
  split at h
  · injection h with h1 h2
    omega
  · rename_i hc
    split at h
    · injection h with h1 h2
      omega
    · rename_i h16
      split at h
      · injection h with h1 h2
        omega
      · rename_i l hl
        injection h with h1 h2
        subst h2
        dsimp only
        obtain ⟨a1,a2⟩:=armsA_all _ _ _ hl
        have hf:f ≤ (piF t).1.length:=by omega
        have hok:¬ (endF nm self f idx (piF t).1.length (piF t).2).2=false:=fun e=>hc (.inr e)
        unfold endF at hok ⊢
        rw [Int.toNat_natCast] at hok ⊢
        split at hok
        · rename_i hg
          rw [if_pos hg]
          dsimp only at hok ⊢
          simp only [Bool.and_eq_true,decide_eq_true_eq] at hg
          obtain ⟨g1,g2,g3⟩:=hg
          have g1:=(eqTm_eq _ _).1 g1
          have hal:∀ a ∈ argsF (piF t).2,∃ p kk,allT a p kk=true:=fun a ha=>⟨_,_,hsp.1 a (by simpa [argsF] using ha)⟩
          have htake:((argsF (piF t).2).take f).length=f:=by
            rw [List.length_take]
            omega
          have hov:=owns_vars _ 0 (fun a ha=>hal a (List.mem_of_mem_take ha)) g3
          rw [htake] at hov
          have hnone:∀ a ∈ (argsF (piF t).2).drop f,stF nm a=false:=by
            intro a ha
            have h9:¬ (!((argsF (piF t).2).drop f).any (stF nm))=false:=hok
            have h8:((argsF (piF t).2).drop f).any (stF nm)=false:=by
              cases e:((argsF (piF t).2).drop f).any (stF nm) with
              |false=>rfl
              |true=>rw [e] at h9; exact absurd rfl h9
            exact Bool.eq_false_iff.2 (fun e=>by
              have:=List.any_eq_false.1 h8 a ha
              exact this e)
          refine ⟨hf,rfl,by omega,a1,by simp; omega,hnone,a2,?_⟩
          rw [← hov,List.take_append_drop,← g1]
          have h7:appsT (spF (piF t).2).1 (argsF (piF t).2)=(piF t).2:=happ
          rw [h7]
          exact hpis.symm
        · exact absurd rfl hok
end Go.Proofs.YtehhihdahalfeaaGreatDoor

/-
  Terms with constants in their variables' places, and back: plain lemmas. No program in sight.
-/
import Derived.Test.YtehhihdahalfeaaGreatDoorZTw
set_option linter.unusedVariables false
set_option linter.unusedSimpArgs false
set_option linter.unnecessarySimpa false
namespace Go.Proofs.YtehhihdahalfeaaGreatDoor
open Go Go.Am Go.Gw
def cn (s:List UInt8):Tm:=.mk 3 0 s [] []
def plN (put:Tm→Int→Option Tm) (t:Tm) (d:Int) (r:List Tm):Tm:=match put t d with
  |some x=>x
  |none=>if t.args.length=0 then t else .mk t.kind 0 [] [] r
mutual
def plF (put:Tm→Int→Option Tm):Tm→Int→Tm
  | .mk k n s ls ts,d=>plN put (.mk k n s ls ts) d (plFs put ts k 0 d)
def plFs (put:Tm→Int→Option Tm):List Tm→Int→Int→Int→List Tm
  |[],_,_,_=>[]
  |t :: r,k,i,d=>plF put t (innerF (shBinds k) i d) :: plFs put r k (i + 1) d
end
section
variable {put:Tm→Int→Option Tm} {t x:Tm} {d:Int} {r:List Tm}
theorem plN_put (h:put t d=some x):plN put t d r=x:=by rw [plN,h]
theorem plN_leaf (h:put t d=none) (ha:t.args.length=0):plN put t d r=t:=by rw [plN,h]; exact if_pos ha
theorem plN_node (h:put t d=none) (ha:¬ t.args.length=0):plN put t d r = .mk t.kind 0 [] [] r:=by rw [plN,h]; exact if_neg ha
end
theorem plFs_length (put:Tm→Int→Option Tm):∀ (ts:List Tm) (k i d:Int),(plFs put ts k i d).length=ts.length
  |[],k,i,d=>by simp [plFs]
  |t :: r,k,i,d=>by simp only [plFs,List.length_cons,plFs_length put r]
mutual
theorem bldF_pl {put:Tm→Int→Option Tm} (hs:∀ t d x,put t d=some x→sizT x ≤ sizT t):∀ (t:Tm) (d left:Int),(sizT t:Int) ≤ left→sizT t ≤ 2000→(bldF put t d left).1=plF put t d∧left - sizT t ≤ (bldF put t d left).2∧sizT (plF put t d) ≤ sizT t
  | .mk k n s ls ts,d,left,h1,h2=>by
    rw [bldF,plF]
    have hp1:1 + sizTs ts ≤ sizT (.mk k n s ls ts):=by rw [sizT]; omega
    cases hp:put (.mk k n s ls ts) d with
    |some x =>
      have:=hs _ _ _ hp
      have hx:=nodesT_eq x
      rw [bldN_put (by omega) hp,plN_put hp]
      refine ⟨rfl,?_,this⟩
      dsimp only
      omega
    |none =>
      by_cases ha:ts.length=0
      · have hx:=nodesT_eq (.mk k n s ls ts)
        rw [bldN_leaf (by omega) hp ha,plN_leaf hp ha]
        refine ⟨rfl,?_,Nat.le_refl _⟩
        dsimp only
        omega
      · rw [bldN_node (by omega) hp ha,plN_node hp ha]
        have ih:=bldFs_pl hs ts k 0 d (left - 1) (by omega) (by omega)
        refine ⟨by dsimp only; rw [ih.1],by dsimp only; omega,?_⟩
        rw [sizT,sizeLs]
        omega
theorem bldFs_pl {put:Tm→Int→Option Tm} (hs:∀ t d x,put t d=some x→sizT x ≤ sizT t):∀ (ts:List Tm) (k i d left:Int),(sizTs ts:Int) ≤ left→sizTs ts ≤ 2000→(bldFs put ts k i d left).1=plFs put ts k i d∧left - sizTs ts ≤ (bldFs put ts k i d left).2∧sizTs (plFs put ts k i d) ≤ sizTs ts
  |[],k,i,d,left,h1,h2=>by simp [bldFs,plFs,sizTs] at *
  |t :: r,k,i,d,left,h1,h2=>by
    rw [sizTs] at h1 h2
    simp only [bldFs,plFs,sizTs]
    have a:=bldF_pl hs t (innerF (shBinds k) i d) left (by omega) (by omega)
    have b:=bldFs_pl hs r k (i + 1) d (bldF put t (innerF (shBinds k) i d) left).2 (by omega) (by omega)
    refine ⟨?_,by omega,by omega⟩
    rw [a.1,b.1]
end
theorem any_siz {t:Tm} (h:anyT t=true):sizT t ≤ 2000:=by
  have:=(any_parts h).1
  rw [nodesT_eq] at this
  omega
theorem allT_cn (s:List UInt8) (p kk:Int):allT (cn s) p kk=nameF s:=by
  simp [cn,allT,nodeT,shArgs,rightLs,allTs]
/-- constants in place of variables -/
def opF (ns:List (List UInt8)) (t:Tm) (d:Int):Option Tm:=if t.kind=1∧d ≤ t.num then some (if (ns.length:Int) ≤ t.num - d then .mk 1 (t.num - ns.length) [] [] [] else cn (ns.getD ((ns.length:Int) - 1 - (t.num - d)).toNat [])) else none
theorem opF_none {ns:List (List UInt8)} {t:Tm} {d:Int} (h:¬ (t.kind=1∧d ≤ t.num)):opF ns t d=none:=if_neg h
theorem opF_var {ns:List (List UInt8)} {t:Tm} {d:Int} (h:t.kind=1∧d ≤ t.num) (h2:(ns.length:Int) ≤ t.num - d):opF ns t d=some (.mk 1 (t.num - ns.length) [] [] []):=by
  unfold opF
  rw [if_pos h,if_pos h2]
theorem opF_arg {ns:List (List UInt8)} {t:Tm} {d:Int} (h:t.kind=1∧d ≤ t.num) (h2:¬ (ns.length:Int) ≤ t.num - d):opF ns t d=some (cn (ns.getD ((ns.length:Int) - 1 - (t.num - d)).toNat [])):=by
  unfold opF
  rw [if_pos h,if_neg h2]
theorem movF_some {b f d:Int} {t:Tm} (h:t.kind=1∧¬ t.num < f + d):movF b f t d=some (.mk 1 (t.num + b) [] [] []):=if_pos h
theorem movF_none {b f d:Int} {t:Tm} (h:¬ (t.kind=1∧¬ t.num < f + d)):movF b f t d=none:=if_neg h
/-- variables in place of a constant -/
def abF (c:List UInt8) (t:Tm) (d:Int):Option Tm:=if t.kind=3∧t.name=c then some (.mk 1 d [] [] []) else movF 1 0 t d
theorem abF_mov {c:List UInt8} {t:Tm} {d:Int} (h:¬ (t.kind=3∧t.name=c)):abF c t d=movF 1 0 t d:=if_neg h
mutual
def constsT:Tm→List (List UInt8)
  | .mk k _ s _ ts=>(if k=3 then [s] else []) ++ constsTs ts
def constsTs:List Tm→List (List UInt8)
  |[]=>[]
  |t :: r=>constsT t ++ constsTs r
end
theorem nodeT_flat {k n:Int} {s:List UInt8} {ls:List Lv} {ts:List Tm} {kk:Int} (h:nodeT (.mk k n s ls ts) kk=true) (hk:k=1):s=[]∧ls=[]:=by
  simp only [nodeT,if_pos hk,Bool.and_eq_true,decide_eq_true_eq] at h
  obtain ⟨-,-,h1,h2⟩:=h
  exact ⟨by simpa using h1,List.eq_nil_of_length_eq_zero h2⟩
theorem nodeT_deep {k n:Int} {s:List UInt8} {ls:List Lv} {ts:List Tm} {kk:Int} (h:nodeT (.mk k n s ls ts) kk=true) (hk:4 ≤ k):n=0∧s=[]∧ls=[]:=by
  have e:shLevels k=0:=by rw [shLevels,if_neg (by omega)]
  simp only [nodeT,if_neg (show ¬ k=1 by omega),if_neg (show ¬ k=3 by omega),Bool.and_eq_true,decide_eq_true_eq,e] at h
  obtain ⟨h0,h1,h2⟩:=h
  exact ⟨h0,by simpa using h1,List.eq_nil_of_length_eq_zero (by omega)⟩
theorem args_of {k n:Int} {s:List UInt8} {ls:List Lv} {ts:List Tm} {p kk:Int} (h:allT (.mk k n s ls ts) p kk=true):(k < 4→ts=[])∧(4 ≤ k→ts.length ≠ 0):=by
  obtain ⟨hk,hl,-⟩:=allT_parts h
  constructor
  · intro h4
    rw [shArgs,if_neg (by omega),if_neg (by omega)] at hl
    exact List.eq_nil_of_length_eq_zero (by omega)
  · intro h4
    rw [shArgs] at hl
    split at hl
    · omega
    · rw [if_pos (by omega)] at hl
      omega
theorem inner_succ (b i d:Int):innerF b i (d + 1)=innerF b i d + 1:=by
  unfold innerF
  split <;> omega
theorem inner_add (b i d e:Int):innerF b i (d + e)=innerF b i d + e:=by
  unfold innerF
  split <;> omega
theorem getD_last (ns:List (List UInt8)) (c:List UInt8):(ns ++ [c]).getD ns.length []=c:=by simp [List.getD_eq_getElem?_getD]
theorem getD_front (ns:List (List UInt8)) (c:List UInt8) {i:Nat} (h:i < ns.length):(ns ++ [c]).getD i []=ns.getD i []:=by simp [List.getD_eq_getElem?_getD,List.getElem?_append_left h]
theorem getD_in (ns:List (List UInt8)) {i:Nat} (h:i < ns.length):ns.getD i [] ∈ ns:=by
  rw [List.getD_eq_getElem?_getD,List.getElem?_eq_getElem h]
  exact List.getElem_mem h
theorem abF_cn {c s:List UInt8} {d:Int} (h:s ≠ c):abF c (cn s) d=none:=by
  unfold abF movF cn
  simp [Tm.kind,Tm.name,h]
theorem plF_cn_other {c s:List UInt8} {d:Int} (h:s ≠ c):plF (abF c) (cn s) d=cn s:=by
  rw [cn,plF]
  exact plN_leaf (abF_cn h) rfl
theorem plF_cn_self {c:List UInt8} {d:Int}:plF (abF c) (cn c) d = .mk 1 d [] [] []:=by
  rw [cn,plF]
  exact plN_put (by simp [abF,Tm.kind,Tm.name])
mutual
theorem ab_op {ns:List (List UInt8)} {c:List UInt8} (hc:c ∉ ns):∀ (t:Tm) (p kk d:Int),allT t p kk=true→c ∉ constsT t→plF (abF c) (plF (opF (ns ++ [c])) t d) d=plF (opF ns) t (d + 1)
  | .mk k n s ls ts,p,kk,d,ha,hn=>by
    obtain ⟨hk,hl,hnd,-,hts⟩:=allT_parts ha
    obtain ⟨ha1,ha2⟩:=args_of ha
    rw [constsT,List.mem_append,not_or] at hn
    by_cases h1:k=1
    · obtain ⟨rfl,rfl⟩:=nodeT_flat hnd h1
      obtain rfl:=ha1 (by omega)
      subst h1
      have hlen:((ns ++ [c]).length:Int)=ns.length + 1:=by simp
      by_cases h2:d ≤ n
      · by_cases h3:n=d
        · subst h3
          have e1:opF (ns ++ [c]) (.mk 1 n [] [] []) n=some (cn c):=by
            rw [opF_arg (t:=.mk 1 n [] [] []) (d:=n) ⟨rfl,Int.le_refl _⟩ (by rw [hlen]; simp only [Tm.num]; omega),hlen]
            simp only [Tm.num]
            rw [show ((ns.length:Int) + 1 - 1 - (n - n)).toNat=ns.length by omega,getD_last]
          have e2:opF ns (.mk 1 n [] [] []) (n + 1)=none:=opF_none (by simp only [Tm.num]; omega)
          rw [plF,plF,plN_put e1,plF_cn_self,plN_leaf e2 rfl]
        · by_cases h4:(ns.length:Int) + 1 ≤ n - d
          · have e1:opF (ns ++ [c]) (.mk 1 n [] [] []) d=some (.mk 1 (n - (ns.length + 1)) [] [] []):=by
              rw [opF_var (t:=.mk 1 n [] [] []) ⟨rfl,h2⟩ (by rw [hlen]; simp only [Tm.num]; omega),hlen]
              rfl
            have e2:opF ns (.mk 1 n [] [] []) (d + 1)=some (.mk 1 (n - ns.length) [] [] []):=opF_var ⟨rfl,by simp only [Tm.num]; omega⟩ (by simp only [Tm.num]; omega)
            have e3:abF c (.mk 1 (n - (ns.length + 1)) [] [] []) d=some (.mk 1 (n - (ns.length + 1) + 1) [] [] []):=by
              rw [abF_mov (by simp only [Tm.kind]; omega),movF_some (t:=.mk 1 _ [] [] []) ⟨rfl,by simp only [Tm.num]; omega⟩]
              rfl
            rw [plF,plF,plN_put e1,plF,plN_put e2,plN_put e3]
            congr 1
            omega
          · have hq:((ns.length:Int) - (n - d)).toNat < ns.length:=by omega
            have e1:opF (ns ++ [c]) (.mk 1 n [] [] []) d=some (cn (ns.getD ((ns.length:Int) - (n - d)).toNat [])):=by
              rw [opF_arg (t:=.mk 1 n [] [] []) ⟨rfl,h2⟩ (by rw [hlen]; simp only [Tm.num]; omega),hlen]
              simp only [Tm.num]
              rw [show (ns.length:Int) + 1 - 1 - (n - d)=(ns.length:Int) - (n - d) by omega,getD_front ns c hq]
            have e2:opF ns (.mk 1 n [] [] []) (d + 1)=some (cn (ns.getD ((ns.length:Int) - (n - d)).toNat [])):=by
              rw [opF_arg (t:=.mk 1 n [] [] []) ⟨rfl,by simp only [Tm.num]; omega⟩ (by simp only [Tm.num]; omega)]
              simp only [Tm.num]
              rw [show (ns.length:Int) - 1 - (n - (d + 1))=(ns.length:Int) - (n - d) by omega]
            have hne:ns.getD ((ns.length:Int) - (n - d)).toNat [] ≠ c:=fun e=>hc (e ▸ getD_in ns hq)
            rw [plF,plF,plN_put e1,plN_put e2,plF_cn_other hne]
      · have e1:∀ m:List (List UInt8),∀ e,d ≤ e→opF m (.mk 1 n [] [] []) e=none:=fun m e he=>opF_none (by simp only [Tm.num]; omega)
        have e3:abF c (.mk 1 n [] [] []) d=none:=by
          rw [abF_mov (by simp only [Tm.kind]; omega)]
          exact movF_none (by simp only [Tm.num]; omega)
        rw [plF,plF,plN_leaf (e1 _ d (by omega)) rfl,plF,plN_leaf (e1 _ (d + 1) (by omega)) rfl,plN_leaf e3 rfl]
    · have e1:∀ m:List (List UInt8),∀ e s ls ts n,opF m (.mk k n s ls ts) e=none:=fun m e s ls ts n=>opF_none (fun h=>h1 h.1)
      by_cases h4:4 ≤ k
      · have e3:∀ ts n,abF c (.mk k n [] [] ts) d=none:=fun ts n=>by
          rw [abF_mov (by simp only [Tm.kind]; omega)]
          exact movF_none (by simp only [Tm.kind]; omega)
        have hne:=ha2 h4
        have ih:=ab_ops hc ts k 0 p kk d hts hn.2
        rw [plF,plF,plN_node (e1 _ _ _ _ _ _) hne,plN_node (e1 _ _ _ _ _ _) hne,plF]
        simp only [Tm.kind]
        rw [plN_node (e3 _ _) (by simp only [Tm.args,plFs_length]; exact hne)]
        simp only [Tm.kind]
        rw [ih]
      · obtain rfl:=ha1 (by omega)
        have e3:abF c (.mk k n s ls []) d=none:=by
          rw [abF_mov]
          · exact movF_none (by simp only [Tm.kind]; omega)
          · simp only [Tm.kind,Tm.name]
            rintro ⟨rfl,rfl⟩
            exact hn.1 (by simp)
        rw [plF,plF,plN_leaf (e1 _ _ _ _ _ _) rfl,plN_leaf (e1 _ _ _ _ _ _) rfl,plF,plN_leaf e3 rfl]
theorem ab_ops {ns:List (List UInt8)} {c:List UInt8} (hc:c ∉ ns):∀ (ts:List Tm) (k i p kk d:Int),allTs ts k i p kk=true→c ∉ constsTs ts→plFs (abF c) (plFs (opF (ns ++ [c])) ts k i d) k i d=plFs (opF ns) ts k i (d + 1)
  |[],k,i,p,kk,d,ha,hn=>by simp only [plFs]
  |t :: r,k,i,p,kk,d,ha,hn=>by
    simp only [allTs,Bool.and_eq_true] at ha
    rw [constsTs,List.mem_append,not_or] at hn
    simp only [plFs]
    rw [ab_op hc t p _ _ ha.1 hn.1,ab_ops hc r k (i + 1) p kk d ha.2 hn.2,inner_succ]
end
mutual
theorem op_nil:∀ (t:Tm) (p kk d:Int),allT t p kk=true→plF (opF []) t d=t
  | .mk k n s ls ts,p,kk,d,ha=>by
    obtain ⟨hk,hl,hnd,-,hts⟩:=allT_parts ha
    obtain ⟨ha1,ha2⟩:=args_of ha
    by_cases h1:k=1
    · obtain ⟨rfl,rfl⟩:=nodeT_flat hnd h1
      obtain rfl:=ha1 (by omega)
      by_cases h2:d ≤ n
      · have e:opF [] (.mk k n [] [] []) d=some (.mk 1 n [] [] []):=by
          rw [opF_var (t:=.mk k n [] [] []) ⟨h1,h2⟩ (by simp only [Tm.num,List.length_nil]; omega)]
          simp [Tm.num]
        rw [plF,plN_put e,h1]
      · have e:opF [] (.mk k n [] [] []) d=none:=opF_none (by simp only [Tm.num]; omega)
        rw [plF,plN_leaf e rfl]
    · have e:opF [] (.mk k n s ls ts) d=none:=opF_none (fun h=>h1 h.1)
      by_cases h4:4 ≤ k
      · obtain ⟨rfl,rfl,rfl⟩:=nodeT_deep hnd h4
        rw [plF,plN_node e (ha2 h4),op_nils ts k 0 p kk d hts]
        rfl
      · obtain rfl:=ha1 (by omega)
        rw [plF,plN_leaf e rfl]
theorem op_nils:∀ (ts:List Tm) (k i p kk d:Int),allTs ts k i p kk=true→plFs (opF []) ts k i d=ts
  |[],k,i,p,kk,d,ha=>by simp only [plFs]
  |t :: r,k,i,p,kk,d,ha=>by
    simp only [allTs,Bool.and_eq_true] at ha
    simp only [plFs]
    rw [op_nil t p _ _ ha.1,op_nils r k (i + 1) p kk d ha.2]
end
theorem nodeT_arg {k n:Int} {s:List UInt8} {ls:List Lv} {ts ts':List Tm} {kk kk':Int} (h:nodeT (.mk k n s ls ts) kk=true) (hk:¬ k=1):nodeT (.mk k n s ls ts') kk'=true:=by
  simp only [nodeT,if_neg hk] at h ⊢
  exact h
theorem allT_intro {k n:Int} {s:List UInt8} {ls:List Lv} {ts:List Tm} {p kk:Int} (h1:1 ≤ k∧k ≤ 7) (h2:(ts.length:Int)=shArgs k) (h3:nodeT (.mk k n s ls ts) kk=true) (h4:rightLs ls p=true) (h5:allTs ts k 0 p kk=true):allT (.mk k n s ls ts) p kk=true:=by
  simp [allT,h1,h2,h3,h4,h5]
theorem allT_var {m p kk:Int} (h0:0 ≤ m) (h1:m < kk):allT (.mk 1 m [] [] []) p kk=true:=by
  simp [allT,nodeT,shArgs,rightLs,allTs,h0,h1]
/- with other bounds -/
mutual
theorem allT_mono:∀ (t:Tm) (p kk kk':Int),allT t p kk=true→kk ≤ kk'→allT t p kk'=true
  | .mk k n s ls ts,p,kk,kk',ha,h=>by
    obtain ⟨hk,hl,hnd,hls,hts⟩:=allT_parts ha
    refine allT_intro hk hl ?_ hls (allTs_mono ts k 0 p kk kk' hts h)
    by_cases h1:k=1
    · have:=nodeT_var hnd h1
      obtain ⟨rfl,rfl⟩:=nodeT_flat hnd h1
      simp [nodeT,h1]
      omega
    · exact nodeT_arg hnd h1
theorem allTs_mono:∀ (ts:List Tm) (k i p kk kk':Int),allTs ts k i p kk=true→kk ≤ kk'→allTs ts k i p kk'=true
  |[],k,i,p,kk,kk',ha,h=>by simp [allTs]
  |t :: r,k,i,p,kk,kk',ha,h=>by
    simp only [allTs,Bool.and_eq_true] at ha ⊢
    refine ⟨allT_mono t p _ _ ha.1 ?_,allTs_mono r k (i + 1) p kk kk' ha.2 h⟩
    unfold innerF
    split <;> omega
end
/- opened: the variables that are left -/
mutual
theorem allT_op {ns:List (List UInt8)} (hns:∀ c ∈ ns,nameF c=true):∀ (t:Tm) (p K d:Int),allT t p (K + d + ns.length)=true→0 ≤ K→0 ≤ d→allT (plF (opF ns) t d) p (K + d)=true
  | .mk k n s ls ts,p,K,d,ha,hK,hd=>by
    obtain ⟨hk,hl,hnd,hls,hts⟩:=allT_parts ha
    obtain ⟨ha1,ha2⟩:=args_of ha
    by_cases h1:k=1
    · have hv:=nodeT_var hnd h1
      obtain ⟨rfl,rfl⟩:=nodeT_flat hnd h1
      obtain rfl:=ha1 (by omega)
      subst h1
      by_cases h2:d ≤ n
      · by_cases h3:(ns.length:Int) ≤ n - d
        · have e:opF ns (.mk 1 n [] [] []) d=some (.mk 1 (n - ns.length) [] [] []):=opF_var ⟨rfl,h2⟩ h3
          rw [plF,plN_put e]
          exact allT_var (by omega) (by omega)
        · have hq:((ns.length:Int) - 1 - (n - d)).toNat < ns.length:=by omega
          have e:opF ns (.mk 1 n [] [] []) d=some (cn (ns.getD ((ns.length:Int) - 1 - (n - d)).toNat [])):=opF_arg ⟨rfl,h2⟩ h3
          rw [plF,plN_put e,allT_cn]
          exact hns _ (getD_in ns hq)
      · have e:opF ns (.mk 1 n [] [] []) d=none:=opF_none (by simp only [Tm.num]; omega)
        rw [plF,plN_leaf e rfl]
        exact allT_var hv.1 (by omega)
    · have e:opF ns (.mk k n s ls ts) d=none:=opF_none (fun h=>h1 h.1)
      by_cases h4:4 ≤ k
      · obtain ⟨rfl,rfl,rfl⟩:=nodeT_deep hnd h4
        rw [plF,plN_node e (ha2 h4)]
        exact allT_intro hk (by rw [plFs_length]; exact hl) (nodeT_arg hnd h1) hls (allTs_op hns ts k 0 p K d hts hK hd)
      · obtain rfl:=ha1 (by omega)
        rw [plF,plN_leaf e rfl]
        exact allT_intro hk hl (nodeT_arg hnd h1) hls (by simp [allTs])
theorem allTs_op {ns:List (List UInt8)} (hns:∀ c ∈ ns,nameF c=true):∀ (ts:List Tm) (k i p K d:Int),allTs ts k i p (K + d + ns.length)=true→0 ≤ K→0 ≤ d→allTs (plFs (opF ns) ts k i d) k i p (K + d)=true
  |[],k,i,p,K,d,ha,hK,hd=>by simp [plFs,allTs]
  |t :: r,k,i,p,K,d,ha,hK,hd=>by
    simp only [allTs,Bool.and_eq_true] at ha
    simp only [plFs,allTs,Bool.and_eq_true]
    refine ⟨?_,allTs_op hns r k (i + 1) p K d ha.2 hK hd⟩
    have hi:=innerF_bd (shBinds k) i d
    rw [show K + d=d + K by omega,inner_add,show innerF (shBinds k) i d + K=K + innerF (shBinds k) i d by omega]
    refine allT_op hns t p K _ ?_ hK (by omega)
    have:=ha.1
    rw [show K + d + (ns.length:Int)=d + (K + ns.length) by omega,inner_add] at this
    rw [show K + innerF (shBinds k) i d + (ns.length:Int)=innerF (shBinds k) i d + (K + ns.length) by omega]
    exact this
end
/- closed: a variable more -/
mutual
theorem allT_ab {c:List UInt8}:∀ (t:Tm) (p kk d:Int),allT t p kk=true→0 ≤ d→d ≤ kk→allT (plF (abF c) t d) p (kk + 1)=true
  | .mk k n s ls ts,p,kk,d,ha,hd,hk0=>by
    obtain ⟨hk,hl,hnd,hls,hts⟩:=allT_parts ha
    obtain ⟨ha1,ha2⟩:=args_of ha
    cases hp:abF c (.mk k n s ls ts) d with
    |some x =>
      rw [plF,plN_put hp]
      unfold abF at hp
      split at hp
      · cases hp
        exact allT_var hd (by omega)
      · unfold movF at hp
        split at hp
        · rename_i h
          cases hp
          have hv:=nodeT_var hnd h.1
          simp only [Tm.num] at h ⊢
          exact allT_var (by omega) (by omega)
        · cases hp
    |none =>
      by_cases h4:4 ≤ k
      · obtain ⟨rfl,rfl,rfl⟩:=nodeT_deep hnd h4
        rw [plF,plN_node hp (ha2 h4)]
        exact allT_intro hk (by rw [plFs_length]; exact hl) (nodeT_arg hnd (show ¬ k=1 by omega)) hls (allTs_ab ts k 0 p kk d hts hd hk0)
      · obtain rfl:=ha1 (by omega)
        rw [plF,plN_leaf hp rfl]
        exact allT_mono _ p kk _ ha (by omega)
theorem allTs_ab {c:List UInt8}:∀ (ts:List Tm) (k i p kk d:Int),allTs ts k i p kk=true→0 ≤ d→d ≤ kk→allTs (plFs (abF c) ts k i d) k i p (kk + 1)=true
  |[],k,i,p,kk,d,ha,hd,hk0=>by simp [plFs,allTs]
  |t :: r,k,i,p,kk,d,ha,hd,hk0=>by
    simp only [allTs,Bool.and_eq_true] at ha
    simp only [plFs,allTs,Bool.and_eq_true]
    have hi:=innerF_bd (shBinds k) i d
    refine ⟨?_,allTs_ab r k (i + 1) p kk d ha.2 hd hk0⟩
    rw [inner_succ]
    refine allT_ab t p _ _ ha.1 (by omega) ?_
    unfold innerF
    split <;> omega
end
/- what is loose is out of so many binders -/
theorem looseTs_acc:∀ (ts:List Tm) (k i d acc:Int),acc ≤ looseTs ts k i d acc
  |[],k,i,d,acc=>by simp [looseTs]
  |t :: r,k,i,d,acc=>by
    rw [looseTs]
    have:=looseTs_acc r k (i + 1) d (max acc (looseT t (innerF (shBinds k) i d)))
    omega
mutual
theorem allT_loose:∀ (t:Tm) (p kk d K:Int),allT t p kk=true→looseT t d ≤ K→allT t p (K + d)=true
  | .mk k n s ls ts,p,kk,d,K,ha,h=>by
    obtain ⟨hk,hl,hnd,hls,hts⟩:=allT_parts ha
    obtain ⟨ha1,ha2⟩:=args_of ha
    by_cases h1:k=1
    · have hv:=nodeT_var hnd h1
      obtain ⟨rfl,rfl⟩:=nodeT_flat hnd h1
      obtain rfl:=ha1 (by omega)
      rw [looseT,if_pos h1] at h
      subst h1
      exact allT_var hv.1 (by omega)
    · rw [looseT,if_neg h1] at h
      exact allT_intro hk hl (nodeT_arg hnd h1) hls (allTs_loose ts k 0 p kk d 0 K hts h)
theorem allTs_loose:∀ (ts:List Tm) (k i p kk d acc K:Int),allTs ts k i p kk=true→looseTs ts k i d acc ≤ K→allTs ts k i p (K + d)=true
  |[],k,i,p,kk,d,acc,K,ha,h=>by simp [allTs]
  |t :: r,k,i,p,kk,d,acc,K,ha,h=>by
    simp only [allTs,Bool.and_eq_true] at ha ⊢
    rw [looseTs] at h
    have h2:=looseTs_acc r k (i + 1) d (max acc (looseT t (innerF (shBinds k) i d)))
    refine ⟨?_,allTs_loose r k (i + 1) p kk d _ K ha.2 h⟩
    rw [show K + d=d + K by omega,inner_add,show innerF (shBinds k) i d + K=K + innerF (shBinds k) i d by omega]
    exact allT_loose t p _ _ K ha.1 (by omega)
end
mutual
theorem loose_allT:∀ (t:Tm) (p d K:Int),allT t p (K + d)=true→0 ≤ K→looseT t d ≤ K
  | .mk k n s ls ts,p,d,K,ha,h=>by
    obtain ⟨hk,hl,hnd,hls,hts⟩:=allT_parts ha
    by_cases h1:k=1
    · have hv:=nodeT_var hnd h1
      rw [looseT,if_pos h1]
      omega
    · rw [looseT,if_neg h1]
      exact loose_allTs ts k 0 p d 0 K hts h (by omega)
theorem loose_allTs:∀ (ts:List Tm) (k i p d acc K:Int),allTs ts k i p (K + d)=true→0 ≤ K→acc ≤ K→looseTs ts k i d acc ≤ K
  |[],k,i,p,d,acc,K,ha,h,hac=>by simpa [looseTs] using hac
  |t :: r,k,i,p,d,acc,K,ha,h,hac=>by
    simp only [allTs,Bool.and_eq_true] at ha
    rw [looseTs]
    have:=loose_allT t p (innerF (shBinds k) i d) K (by
      have:=ha.1
      rwa [show K + d=d + K by omega,inner_add,show innerF (shBinds k) i d + K=K + innerF (shBinds k) i d by omega] at this) h
    exact loose_allTs r k (i + 1) p d _ K ha.2 h (by omega)
end
/- the constants of what is opened -/
mutual
theorem consts_op {ns:List (List UInt8)} {c:List UInt8}:∀ (t:Tm) (p kk d:Int),allT t p kk=true→c ∈ constsT (plF (opF ns) t d)→c ∈ constsT t∨c ∈ ns
  | .mk k n s ls ts,p,kk,d,hall,h=>by
    obtain ⟨hk,hl,hnd,hls,hts⟩:=allT_parts hall
    obtain ⟨ha1,ha2⟩:=args_of hall
    cases hp:opF ns (.mk k n s ls ts) d with
    |some x =>
      rw [plF,plN_put hp] at h
      unfold opF at hp
      split at hp
      · rename_i hc
        cases hp
        split at h
        · simp [constsT,constsTs] at h
        · rename_i h3
          simp only [cn,constsT,constsTs,if_true,List.append_nil,List.mem_singleton] at h
          simp only [Tm.num] at h h3 hc
          have hq:((ns.length:Int) - 1 - (n - d)).toNat < ns.length:=by omega
          right
          rw [h]
          exact getD_in ns hq
      · cases hp
    |none =>
      by_cases ha:ts.length=0
      · rw [plF,plN_leaf hp ha] at h
        exact .inl h
      · have h4:4 ≤ k:=by
          by_cases h4:4 ≤ k
          · exact h4
          · rw [ha1 (by omega)] at ha
            exact absurd rfl ha
        rw [plF,plN_node hp ha,constsT,if_neg (by simp only [Tm.kind]; omega),List.nil_append] at h
        rw [constsT,if_neg (by omega),List.nil_append]
        exact consts_ops ts k 0 p kk d hts h
theorem consts_ops {ns:List (List UInt8)} {c:List UInt8}:∀ (ts:List Tm) (k i p kk d:Int),allTs ts k i p kk=true→c ∈ constsTs (plFs (opF ns) ts k i d)→c ∈ constsTs ts∨c ∈ ns
  |[],k,i,p,kk,d,ha,h=>by simp [plFs,constsTs] at h
  |t :: r,k,i,p,kk,d,ha,h=>by
    simp only [allTs,Bool.and_eq_true] at ha
    simp only [plFs,constsTs,List.mem_append] at h ⊢
    rcases h with h|h
    · rcases consts_op t p _ _ ha.1 h with h|h
      · exact .inl (.inl h)
      · exact .inr h
    · rcases consts_ops r k (i + 1) p kk d ha.2 h with h|h
      · exact .inl (.inr h)
      · exact .inr h
end
end Go.Proofs.YtehhihdahalfeaaGreatDoor

/-
  TeleBack: what its call answers in the plain machine, given that layer 17 is alive.
-/
import Derived.Test.YtehhihdahalfeaaGreatDoorZUh
import Derived.Test.YtehhihdahalfeaaGreatDoorZUi
set_option linter.unusedVariables false
set_option linter.unusedSimpArgs false
set_option linter.unnecessarySimpa false
namespace Go.Proofs.YtehhihdahalfeaaGreatDoor
open Go Go.Am Go.Gw
theorem splitF_none {kind : Int} : ∀ {q : Nat} {t : Tm}, splitF kind q t = none → countR kind t < q
  | 0, t, h => by simp [splitF] at h
  | q + 1, .mk k n s ls ts, h => by
    unfold splitF at h
    unfold countR
    split at h
    · rename_i a b
      by_cases hk : k = kind
      · rw [if_pos hk] at h
        have := splitF_none (q := q) (t := b) (by
          cases hb : splitF kind q b with
          | none => rfl
          | some r => rw [hb] at h; simp at h)
        try dsimp only
        split
        · omega
        · omega
      · try dsimp only
        rw [if_neg (by simp [hk])]
        omega
    · rename_i hne
      first
        | omega
        | (split
           · rename_i a b
             exact absurd rfl (hne a b)
           · omega)
theorem looseT_nonneg (t : Tm) (d : Int) : 0 ≤ looseT t d := by
  obtain ⟨k, n, s, ls, ts⟩ := t
  rw [looseT]
  split
  · omega
  · exact looseTs_acc ts k 0 d 0
theorem free_out {t : Tm} {m : Nat} (hf : FreeOk t m) (ha : anyT t = true) {i : Nat} (hi : i < 10000) : xF m i ∉ constsT t := by
  intro h
  have h1 : xF m i ∈ ConstsF t := by
    unfold ConstsF
    rw [if_pos ha, nameSortF_mem]
    exact h
  have h2 := hf.2
  unfold usesF at h2
  have h3 : (ConstsF t).any (fun s => underF s (topF m)) = true := List.any_eq_true.2 ⟨_, h1, under_x (by have := hf.1; omega) hi⟩
  rw [h2] at h3
  cases h3
theorem namesF_at {m n i : Nat} {c : List UInt8} (h : (namesF m n)[i]? = some c) : i < n ∧ c = xF m i := by
  unfold namesF at h
  rw [List.getElem?_map] at h
  cases hr : (List.range n)[i]? with
  | none => rw [hr] at h; cases h
  | some j =>
    rw [hr] at h
    obtain ⟨h1, h2⟩ := List.getElem?_eq_some_iff.1 hr
    simp at h1 h2
    subst h2
    simp at h
    exact ⟨h1, h.symm⟩
theorem namesF_mem {m n : Nat} {c : List UInt8} (h : c ∈ namesF m n) : ∃ i, i < n ∧ c = xF m i := by
  obtain ⟨i, hi⟩ := List.getElem?_of_mem h
  exact ⟨i, namesF_at hi⟩
/-- what the law says of what is opened -/
theorem open_law {t : Tm} {kind n : Int} {m : Nat} (hf : FreeOk t m) (hn : 0 ≤ n ∧ n ≤ 20) (hlo : LooseF t ≤ 1099511627776) :
    (OpenF t kind (namesF m n.toNat) = none → binderB kind = false ∨ (countR kind t : Int) < n ∨ anyT t = false) ∧
    ∀ L b, OpenF t kind (namesF m n.toNat) = some (L, b) → (L.length : Int) = n ∧ LooseF b ≤ LooseF t ∧ (∀ (i : Nat) (x : List UInt8 × Tm), L[i]? = some x → (namesF m n.toNat)[i]? = some x.1 ∧ ∀ (k : Nat) (s : List UInt8), i ≤ k → (namesF m n.toNat)[k]? = some s → s ∉ ConstsF x.2) ∧ CloseF kind b L = some t := by
  by_cases hb : anyT t = true ∧ binderB kind = true
  · obtain ⟨ha, hbk⟩ := hb
    have hkd : kind = 6 ∨ kind = 5 := of_decide_eq_true hbk
    have hql : (namesF m n.toNat).length = n.toNat := namesF_length _ _
    have hsp : SplitF t kind ((namesF m n.toNat).length : Nat) = splitF kind n.toNat t := by
      unfold SplitF
      rw [if_pos (by rw [ha, hbk]; simp), hql]
      rfl
    cases hs : splitF kind n.toNat t with
    | none =>
      have hc := splitF_none hs
      have ho : OpenF t kind (namesF m n.toNat) = none := by
        unfold OpenF
        rw [hsp, hs]
      exact ⟨fun _ => .inr (.inl (by omega)), fun L b h => by rw [ho] at h; cases h⟩
    | some r =>
      obtain ⟨ss, body⟩ := r
      obtain ⟨hsz, hall0⟩ := anyT_iff.1 ha
      obtain ⟨K, hK⟩ : ∃ K, K = looseT t 0 := ⟨_, rfl⟩
      have hK0 : 0 ≤ K := hK ▸ looseT_nonneg t 0
      have hKl : LooseF t = K := by rw [LooseF, if_pos ha, hK]
      have hall : allT t 4 K = true := by
        have := allT_loose t 4 _ 0 K hall0 (by omega)
        rwa [Int.add_zero] at this
      obtain ⟨hbind, hssl⟩ := splitF_bind hkd hall hs
      have hns : ∀ c ∈ namesF m n.toNat, nameF c = true := fun c hc => by
        obtain ⟨i, hi, rfl⟩ := namesF_mem hc
        exact name_x (by have := hf.1; omega) (by omega)
      have hout : ∀ c ∈ namesF m n.toNat, c ∉ constsT t := fun c hc => by
        obtain ⟨i, hi, rfl⟩ := namesF_mem hc
        exact free_out hf ha (by omega)
      have hba := fun c => bindL_all hkd (c := c) (ss := ss) (body := body) (kk := K) (p := 4) (by rw [← hbind]; exact hall) (by rw [← hbind]; exact hsz)
      have hbody : anyT body = true := anyT_iff.2 ⟨(hba []).1.2.1, allT_mono _ _ _ _ (hba []).1.1 (by omega)⟩
      have hssa : ∀ s ∈ ss, anyT s = true := fun s hs => by
        obtain ⟨j, hj⟩ := List.getElem?_of_mem hs
        have hjl := (List.getElem?_eq_some_iff.1 hj).1
        obtain ⟨q1, q2, _⟩ := (hba []).2 j s hj
        exact anyT_iff.2 ⟨q2, allT_mono _ _ _ _ q1 (by omega)⟩
      have hop : opT [] ss (namesF m n.toNat) = some (opL [] (namesF m n.toNat) ss) := by
        have := opT_eq (ss := ss) (ns := namesF m n.toNat) (don := []) (by omega) hns (by simp) (by simp; omega) hssa
        simpa using this
      have hcs : (opL [] (namesF m n.toNat) ss).map (fun x => cn x.1) = (namesF m n.toNat).map cn := by
        rw [show (fun x : List UInt8 × Tm => cn x.1) = cn ∘ (·.1) from rfl, ← List.map_map, opL_names (by omega)]
      have ho : OpenF t kind (namesF m n.toNat) = some (opL [] (namesF m n.toNat) ss, plF (opF (namesF m n.toNat)) body 0) := by
        unfold OpenF
        rw [hsp, hs]
        simp only [hop, hcs, InstF_cn hbody (show (namesF m n.toNat).length ≤ 1048576 by omega) hns]
      refine ⟨fun h => (by rw [ho] at h; cases h), fun L b h => ?_⟩
      rw [ho] at h
      cases h
      have hbl : allT (plF (opF (namesF m n.toNat)) body 0) 4 K = true := by
        have := allT_op hns body 4 K 0 (by rw [hql, ← hssl]; simpa using (hba []).1.1) hK0 (by omega)
        rwa [Int.add_zero] at this
      have hba2 : anyT (plF (opF (namesF m n.toNat)) body 0) = true := anyT_iff.2 ⟨Nat.le_trans (plF_siz (opF_siz _) (hba []).1.2.1) (hba []).1.2.1, allT_mono _ _ _ _ hbl (by omega)⟩
      refine ⟨?_, ?_, ?_, ?_⟩
      · rw [opL_length (by omega)]
        omega
      · rw [hKl, LooseF, if_pos hba2]
        exact loose_allT _ 4 0 K (by rw [Int.add_zero]; exact hbl) hK0
      · intro i x hx
        have hil : i < ss.length := by
          have := (List.getElem?_eq_some_iff.1 hx).1
          rwa [opL_length (by omega)] at this
        obtain ⟨s, hsi⟩ : ∃ s, ss[i]? = some s := ⟨_, List.getElem?_eq_getElem hil⟩
        obtain ⟨c, hci⟩ : ∃ c, (namesF m n.toNat)[i]? = some c := ⟨_, List.getElem?_eq_getElem (by omega)⟩
        rw [opL_at hci hsi] at hx
        cases hx
        refine ⟨hci, fun k u hik hu hmem => ?_⟩
        have hum := List.mem_of_getElem? hu
        unfold ConstsF at hmem
        split at hmem
        · rw [nameSortF_mem, List.nil_append] at hmem
          obtain ⟨q1, q2, q3⟩ := (hba u).2 i s hsi
          rcases consts_op s 4 _ 0 q1 hmem with h | h
          · exact q3 (by rw [← hbind]; exact hout u hum) h
          · obtain ⟨j, hj⟩ := List.getElem?_of_mem h
            rw [List.getElem?_take] at hj
            split at hj
            · rename_i hji
              obtain ⟨_, e1⟩ := namesF_at hj
              obtain ⟨_, e2⟩ := namesF_at hu
              have := xF_inj (e1.symm.trans e2)
              omega
            · cases hj
        · simp at hmem
      · unfold CloseF
        rw [if_pos ⟨hbk, hba2⟩]
        rw [close_open hkd hK0 n.toNat hql hssl (by omega) (namesF_nodup _ _) hns (by rw [← hbind]; exact hall) (by rw [← hbind]; exact hsz) (fun c hc => by rw [← hbind]; exact hout c hc), ← hbind]
        simp only [ha, if_true]
  · have hsp : ∀ q, SplitF t kind q = none := fun q => by
      unfold SplitF
      rw [if_neg]
      intro h
      simp only [Bool.and_eq_true] at h
      exact hb ⟨h.1, h.2.1⟩
    have ho : OpenF t kind (namesF m n.toNat) = none := by
      unfold OpenF
      rw [hsp]
    refine ⟨fun _ => ?_, fun L b h => by rw [ho] at h; cases h⟩
    by_cases h1 : anyT t = true
    · exact .inl (Bool.eq_false_iff.2 fun h2 => hb ⟨h1, h2⟩)
    · exact .inr (.inr (Bool.eq_false_iff.2 h1))
end Go.Proofs.YtehhihdahalfeaaGreatDoor
namespace Go.Proofs.YtehhihdahalfeaaGreatDoor
open Go Go.Am Go.Gw
theorem encLos_open {l : List (List UInt8 × Tm)} : ∃ b z, encLos l = .sl b z (l.map encLo) ∧ (z = 6 ∨ l = []) := by
  cases l with
  | nil => exact ⟨_, _, rfl, .inr rfl⟩
  | cons d r => exact ⟨_, _, rfl, .inl rfl⟩
theorem eqTm_self (t : Tm) : eqTm t t = true := (eqTm_eq t t).2 rfl
theorem opT_w : ∀ {ss : List Tm} {ns : List (List UInt8)} {don L : List (List UInt8 × Tm)}, (∀ s ∈ ss, TmW s) → (∀ c ∈ ns, c.length ≤ 140737488355328) → (∀ x ∈ don, LoW x) → opT don ss ns = some L → ∀ x ∈ L, LoW x
  | [], ns, don, L, _, _, hd, h => by
    simp only [opT, Option.some.injEq] at h
    subst h
    exact hd
  | s :: ss, [], don, L, _, _, _, h => by simp [opT] at h
  | s :: ss, n :: ns, don, L, hs, hn, hd, h => by
    simp only [opT] at h
    split at h
    · rename_i x hx
      have hxw : TmW x := InstF_w (hs s (by simp)) (fun u hu => by
        obtain ⟨y, hy, rfl⟩ := List.mem_map.1 hu
        exact cn_w (hd y hy).2) hx
      refine opT_w (fun y hy => hs y (by simp [hy])) (fun y hy => hn y (by simp [hy])) (fun y hy => ?_) h
      rcases List.mem_append.1 hy with hy | hy
      · exact hd y hy
      · simp at hy
        subst hy
        exact ⟨hxw, hn n (by simp)⟩
    · cases h
theorem OpenF_w {t : Tm} {kind : Int} {ns : List (List UInt8)} {L : List (List UInt8 × Tm)} {b : Tm} (hw : TmW t) (hn : ∀ c ∈ ns, c.length ≤ 140737488355328) (h : OpenF t kind ns = some (L, b)) : (∀ x ∈ L, LoW x) ∧ TmW b := by
  unfold OpenF at h
  split at h
  · cases h
  · rename_i ss body hs
    obtain ⟨_, h1, h2⟩ := SplitF_w hw hs
    split at h
    · cases h
    · rename_i l hl
      have hlw := opT_w h1 hn (by simp) hl
      split at h
      · cases h
      · rename_i b' hb
        cases h
        exact ⟨hlw, InstF_w h2 (fun u hu => by
          obtain ⟨y, hy, rfl⟩ := List.mem_map.1 hu
          exact cn_w (hlw y hy).2) hb⟩
set_option maxHeartbeats 4000000 in
set_option maxRecDepth 100000 in
theorem TeleBack_can (hal : Pf C1 8 [] [bv true]) (t : Tm) (v : PV) (h : TmP t v) (kind n : Int) : Pf C1 3 [v, iv kind, iv n] [bv true] := by
  have hg := Great_can t v h
  have hlo := Loose_can t v h
  have hw := h.w
  by_cases hgd : 2500 < useN t 2500 ∨ n < 0 ∨ 20 < n ∨ 1099511627776 < LooseF t
  · obtain ⟨k0, nn0, s0, ls0, ts0, b0, z0, xs0, c0, y0, ys0, rfl, rfl, -⟩ := h.open
    refine run_intro Tryz.func3 rfl rfl rfl ?_
    repeat' ((conv => whnf) ; first | refine VIf.tt rfl ?_ | refine VIf.ff rfl ?_ | refine VIf.not ?_ | refine VIf.dtt (by assumption) ?_ | refine VIf.dff (by assumption) ?_ | refine VIf.dec (fun h => ?_) (fun h => ?_) | refine VIf.tt (by assumption) ?_ | refine VIf.ff (by assumption) ?_ | refine VIf.mk (fun h => ?_) (fun h => ?_) | refine VOk.mk rfl ?_ | refine VPur.mk rfl ?_ | refine VNat.mk _ rfl ?_ | refine VArith.fits (by unfold i64; omega) ?_ | refine vret_pf rfl ?_ | refine vret_take rfl rfl ?_ | refine vcall_pf hal rfl rfl ?_ | refine vcall_pf hg rfl rfl ?_ | refine vcall_pf hlo rfl rfl ?_ | refine VTch.mk _ rfl ?_)
    all_goals (try (conv => whnf))
    all_goals first
      | rfl
      | exact absurd hgd (by omega)
  · have hg1 : ¬ 2500 < useN t 2500 := fun e => hgd (.inl e)
    have hn0 : ¬ n < 0 := fun e => hgd (.inr (.inl e))
    have hn1 : ¬ 20 < n := fun e => hgd (.inr (.inr (.inl e)))
    have hlo1 : ¬ 1099511627776 < LooseF t := fun e => hgd (.inr (.inr (.inr e)))
    obtain ⟨m, hf, hnm⟩ := Names_can n (by omega) t v h true
    obtain ⟨hlaw1, hlaw2⟩ := open_law (kind := kind) hf (by omega : 0 ≤ n ∧ n ≤ 20) (by omega)
    obtain ⟨nb, nz, hne, hnz⟩ := encSs_open (namesF m n.toNat)
    have hnl := namesF_length m n.toNat
    have hnl2 : (svs (namesF m n.toNat)).length = n.toNat := by simp [hnl]
    have hop := Open_can t v h kind (namesF m n.toNat) nb nz hnz (by omega) (fun s hs => by
      obtain ⟨i, hi, rfl⟩ := namesF_mem hs
      have := name_short (name_x (m := m) (i := i) (by have := hf.1; omega) (by omega))
      omega)
    rw [hne] at hnm
    cases ho : OpenF t kind (namesF m n.toNat) with
    | none =>
      have hlaw := hlaw1 ho
      rw [ho] at hop
      simp only [openV] at hop
      have hsz := SameTerm_can tz _ tmW_tz tz _ tmW_tz
      rw [eqTm_self] at hsz
      have hbd := lawBinder_can kind
      have hct := Count_can t v h kind
      have han : Pf C1 16 [v, iv 4] [bv (anyT t)] := refAny_can t v h 4
      obtain ⟨k0, nn0, s0, ls0, ts0, b0, z0, xs0, c0, y0, ys0, rfl, rfl, -⟩ := h.open
      refine run_intro Tryz.func3 rfl rfl rfl ?_
      repeat' ((conv => whnf) ; first | refine VIf.tt rfl ?_ | refine VIf.ff rfl ?_ | refine VIf.not ?_ | refine VIf.dtt (by assumption) ?_ | refine VIf.dff (by assumption) ?_ | refine VIf.dec (fun h => ?_) (fun h => ?_) | refine VIf.tt (by assumption) ?_ | refine VIf.ff (by assumption) ?_ | refine VIf.mk (fun h => ?_) (fun h => ?_) | refine VOk.mk rfl ?_ | refine VPur.mk rfl ?_ | refine VNat.mk _ rfl ?_ | refine VArith.fits (by unfold i64; omega) ?_ | refine vret_pf rfl ?_ | refine vret_take rfl rfl ?_ | refine vcall_pf hal rfl rfl ?_ | refine vcall_pf hg rfl rfl ?_ | refine vcall_pf hlo rfl rfl ?_ | refine vcall_pf hnm rfl rfl ?_ | refine vcall_pf hop rfl rfl ?_ | refine vcall_pf hsz rfl rfl ?_ | refine vcall_pf hbd rfl rfl ?_ | refine vcall_pf hct rfl rfl ?_ | refine vcall_pf han rfl rfl ?_ | refine VTch.mk _ rfl ?_)
      all_goals (try (conv => whnf))
      have hna : anyT (.mk k0 nn0 s0 ls0 ts0) = false := by
        rcases hlaw with h1 | h1 | h1
        · exact absurd h1 (by simp_all [binderB])
        · omega
        · exact h1
      rw [hna]
      rfl
    | some p =>
      obtain ⟨L, b⟩ := p
      obtain ⟨hLl, hLo, hLx, hLc⟩ := hlaw2 L b ho
      rw [ho] at hop
      simp only [openV] at hop
      obtain ⟨hLw, hbw⟩ := OpenF_w hw (fun s hs => by
        obtain ⟨i, hi, rfl⟩ := namesF_mem hs
        have := name_short (name_x (m := m) (i := i) (by have := hf.1; omega) (by omega))
        omega) ho
      obtain ⟨lb, lz, hLe, hlz⟩ := encLos_open (l := L)
      have hlz' : lz = 6 ∨ L.map encLo = [] := hlz.imp id fun e => by rw [e]; rfl
      have hll : (L.map encLo).length = L.length := by simp
      have hlb := Loose_can b _ hbw
      have hcl := Close_can kind b _ hbw L lb lz (L.map encLo) hlz' (los_enc hLw) (by omega)
      rw [hLc] at hcl
      simp only [closeV] at hcl
      have hsm := SameTerm_can t _ hw t v h
      rw [eqTm_self] at hsm
      obtain ⟨k9, n9, s9, b9, z9, x9, c9, y9, ys9, he9⟩ := encT_open b
      obtain ⟨k8, n8, s8, b8, z8, x8, c8, y8, ys8, he8⟩ := encT_open t
      rw [hLe, he9] at hop
      rw [he9] at hlb hcl
      rw [he8] at hcl hsm
      obtain ⟨k0, nn0, s0, ls0, ts0, b0, z0, xs0, c0, y0, ys0, rfl, rfl, -⟩ := h.open
      refine run_intro Tryz.func3 rfl rfl rfl ?_
      have hLn : ((L.map encLo).length : Int) = n := by omega
      repeat' ((conv => whnf) ; first | refine VIf.tt rfl ?_ | refine VIf.ff rfl ?_ | refine VIf.not ?_ | refine VIf.dtt (by assumption) ?_ | refine VIf.dff (by assumption) ?_ | refine VIf.dec (fun h => ?_) (fun h => ?_) | refine VIf.tt (by assumption) ?_ | refine VIf.ff (by assumption) ?_ | refine VIf.mk (fun h => ?_) (fun h => ?_) | refine VOk.mk rfl ?_ | refine VPur.mk rfl ?_ | refine VNat.mk _ rfl ?_ | refine VArith.fits (by unfold i64; omega) ?_ | refine vret_pf rfl ?_ | refine vret_take rfl rfl ?_ | refine vcall_pf hal rfl rfl ?_ | refine vcall_pf hg rfl rfl ?_ | refine vcall_pf hlo rfl rfl ?_ | refine vcall_pf hnm rfl rfl ?_ | refine vcall_pf hop rfl rfl ?_ | refine finds_pf hlb (fun _ => ?_) | refine finds_pf hlo (fun _ => ?_) | refine VTch.mk _ rfl ?_)
      all_goals (try (conv => whnf))
      · omega
      refine loop_over (G := Nat) (fun i => [(11, iv i)]) (fun _ => _) (fun i => (i : Int) ≤ n) (fun i => n.toNat - i) 0 (by omega) rfl rfl ?_
      intro i hi
      have hat : ∀ (hi' : (i : Int) < n), ∃ s k1 n1 s1 b1 z1 x1 c1 y1 ys1 t1, (L.map encLo)[i]? = some (.ag [sv s, iv k1, iv n1, sv s1, .sl b1 z1 x1, .sl c1 y1 ys1]) ∧ TmP t1 (.ag [iv k1, iv n1, sv s1, .sl b1 z1 x1, .sl c1 y1 ys1]) ∧ (namesF m n.toNat)[i]? = some s ∧ ∀ (k : Nat) (u : List UInt8), i ≤ k → (namesF m n.toNat)[k]? = some u → u ∉ ConstsF t1 := fun hi' => by
        obtain ⟨x, hx⟩ : ∃ x, L[i]? = some x := ⟨_, List.getElem?_eq_getElem (by omega)⟩
        have hxw := lo_enc (hLw x (List.mem_of_getElem? hx))
        obtain ⟨q1, q2⟩ := hLx i x hx
        obtain ⟨s, k1, n1, s1, b1, z1, x1, c1, y1, ys1, t1, rfl, hev, ht1, hsl⟩ := hxw.open
        refine ⟨s, k1, n1, s1, b1, z1, x1, c1, y1, ys1, t1, ?_, ht1, q1, q2⟩
        rw [List.getElem?_map, hx, Option.map_some, hev]
      repeat' ((conv => whnf) ; first | refine VIf.tt rfl ?_ | refine VIf.ff rfl ?_ | refine VIf.not ?_ | refine VIf.dtt (by assumption) ?_ | refine VIf.dff (by assumption) ?_ | refine VIf.dec (fun h => ?_) (fun h => ?_) | refine VIf.tt (by assumption) ?_ | refine VIf.ff (by assumption) ?_ | refine VIf.mk (fun h => ?_) (fun h => ?_) | refine VOk.mk rfl ?_ | refine VPur.mk rfl ?_ | refine VNat.mk _ rfl ?_ | refine VArith.fits (by unfold i64; omega) ?_ | refine vret_pf rfl ?_ | refine vret_take rfl rfl ?_ | refine VTch.mk _ rfl ?_)
      all_goals (try (conv => whnf))
      · obtain ⟨s, k1, n1, s1, b1, z1, x1, c1, y1, ys1, t1, hv, ht1, hni, hnot⟩ := hat (by omega)
        refine loop_over (G := Nat) (fun k => [(12, iv k)]) (fun _ => _) (fun k => i ≤ k ∧ (k : Int) ≤ n) (fun k => n.toNat - k) i ⟨Nat.le_refl _, hi⟩ rfl rfl ?_
        rintro k ⟨hik, hk⟩
        dsimp only
        repeat' ((conv => whnf) ; first | refine VIf.tt rfl ?_ | refine VIf.ff rfl ?_ | refine VIf.not ?_ | refine VIf.dtt (by assumption) ?_ | refine VIf.dff (by assumption) ?_ | refine VIf.dec (fun h => ?_) (fun h => ?_) | refine VIf.tt (by assumption) ?_ | refine VIf.ff (by assumption) ?_ | refine VIf.mk (fun h => ?_) (fun h => ?_) | refine VOk.mk rfl ?_ | refine VPur.mk rfl ?_ | refine VNat.mk _ rfl ?_ | refine VArith.fits (by unfold i64; omega) ?_ | refine vret_pf rfl ?_ | refine vret_take rfl rfl ?_ | refine VTch.mk _ rfl ?_)
        all_goals (try (conv => whnf))
        · obtain ⟨u, hu⟩ : ∃ u, (namesF m n.toNat)[k]? = some u := ⟨_, List.getElem?_eq_getElem (by omega)⟩
          have hoc := Occurs_can t1 _ ht1 u
          rw [decide_eq_false (hnot k u hik hu)] at hoc
          repeat' ((conv => whnf) ; first | refine VIf.tt rfl ?_ | refine VIf.ff rfl ?_ | refine VIf.not ?_ | refine VIf.dtt (by assumption) ?_ | refine VIf.dff (by assumption) ?_ | refine VIf.dec (fun h => ?_) (fun h => ?_) | refine VIf.tt (by assumption) ?_ | refine VIf.ff (by assumption) ?_ | refine VIf.mk (fun h => ?_) (fun h => ?_) | refine VOk.mk rfl ?_ | refine VPur.mk rfl ?_ | refine VNat.mk _ rfl ?_ | refine VArith.fits (by unfold i64; omega) ?_ | refine vret_pf rfl ?_ | refine vret_take rfl rfl ?_ | refine VIdx.mk _ hv ?_ | refine VIdx.mk _ (svs_at hu) ?_ | refine VOk.mk (szOk_of rfl (svs_nil hnz)) ?_ | refine VOk.mk (szOk_of rfl hlz') ?_ | refine finds_pf hoc (fun _ => ?_) | refine VTch.mk _ rfl ?_)
          all_goals (try (conv => whnf))
          exact VAgain.mk _ rfl _ (gc_same rfl) ⟨k + 1, ⟨by omega, by omega⟩, by omega, rfl⟩
        · repeat' ((conv => whnf) ; first | refine VIf.tt rfl ?_ | refine VIf.ff rfl ?_ | refine VIf.not ?_ | refine VIf.dtt (by assumption) ?_ | refine VIf.dff (by assumption) ?_ | refine VIf.dec (fun h => ?_) (fun h => ?_) | refine VIf.tt (by assumption) ?_ | refine VIf.ff (by assumption) ?_ | refine VIf.mk (fun h => ?_) (fun h => ?_) | refine VOk.mk rfl ?_ | refine VPur.mk rfl ?_ | refine VNat.mk _ rfl ?_ | refine VArith.fits (by unfold i64; omega) ?_ | refine vret_pf rfl ?_ | refine vret_take rfl rfl ?_ | refine VIdx.mk _ hv ?_ | refine VIdx.mk _ (svs_at hni) ?_ | refine VOk.mk (szOk_of rfl (svs_nil hnz)) ?_ | refine VOk.mk (szOk_of rfl hlz') ?_ | refine vres_str ?_ | refine VTch.mk _ rfl ?_)
          all_goals (try (conv => whnf))
          · exact VAgain.mk _ rfl _ (gc_same rfl) ⟨i + 1, by omega, by omega, rfl⟩
          · exact absurd h (by simp)
      · repeat' ((conv => whnf) ; first | refine VIf.tt rfl ?_ | refine VIf.ff rfl ?_ | refine VIf.not ?_ | refine VIf.dtt (by assumption) ?_ | refine VIf.dff (by assumption) ?_ | refine VIf.dec (fun h => ?_) (fun h => ?_) | refine VIf.tt (by assumption) ?_ | refine VIf.ff (by assumption) ?_ | refine VIf.mk (fun h => ?_) (fun h => ?_) | refine VOk.mk rfl ?_ | refine VPur.mk rfl ?_ | refine VNat.mk _ rfl ?_ | refine VArith.fits (by unfold i64; omega) ?_ | refine vret_pf rfl ?_ | refine vret_take rfl rfl ?_ | refine vcall_pf hcl rfl rfl ?_ | refine vcall_pf hsm rfl rfl ?_ | refine VTch.mk _ rfl ?_)
        all_goals (try (conv => whnf))
        rfl
end Go.Proofs.YtehhihdahalfeaaGreatDoor

/-
  Terms made anew, and raised (package bind). No statement of the seat.
-/
import Derived.Test.YtehhihdahalfeaaGreatDoorZTg
set_option linter.unusedVariables false
set_option linter.unusedSimpArgs false
set_option linter.unnecessarySimpa false
namespace Go.Proofs.YtehhihdahalfeaaGreatDoor
open Go Go.Am Go.Gw
def madeF (put : Tm → Int → Option Tm) (t : Tm) : Option Tm := if (bldF put t 0 2000).2 < 0 then none else some (bldF put t 0 2000).1
set_option maxHeartbeats 2000000 in
set_option maxRecDepth 100000 in
theorem madeMoved_can (by_ from_ : Int) (hby : 0 ≤ by_ ∧ by_ ≤ 4194304) (hfr : 0 ≤ from_ ∧ from_ ≤ 4194304) (t : Tm) (v : PV) (h : TmP t v) (p kk : Int) (hall : allT t p kk = true) (hk0 : 0 ≤ kk) (hk1 : kk + depT t ≤ 2251799813685248) :
    Pf C1 71 [v, movedP by_ from_] (putV (madeF (movF by_ from_) t)) := by
  have hb := bldMoved_can by_ from_ hby hfr t v h p kk 0 2000 hall hk0 hk1 (by omega) (by omega) (by omega) (by omega)
  have hl := bldF_left (movF by_ from_) t 0 2000 (by omega)
  have hm : madeF (movF by_ from_) t = if (bldF (movF by_ from_) t 0 2000).2 < 0 then none else some (bldF (movF by_ from_) t 0 2000).1 := rfl
  generalize bldF (movF by_ from_) t 0 2000 = bx at hb hl hm
  obtain ⟨bt, bl⟩ := bx
  obtain ⟨k8, n8, s8, b8, z8, x8, c8, y8, ys8, he8⟩ := encT_open bt
  dsimp only at hb hl hm
  rw [he8] at hb
  obtain ⟨k, nn, s, ls, ts, b, z, xs, c, y, ys, rfl, rfl, -⟩ := h.open
  refine run_intro Tryz.func71 rfl rfl rfl ?_
  repeat' ((conv => whnf) ; first | refine VIf.tt rfl ?_ | refine VIf.ff rfl ?_ | refine VIf.not ?_ | refine VIf.dtt (by assumption) ?_ | refine VIf.dff (by assumption) ?_ | refine VIf.dec (fun h => ?_) (fun h => ?_) | refine VIf.tt (by assumption) ?_ | refine VIf.ff (by assumption) ?_ | refine VIf.mk (fun h => ?_) (fun h => ?_) | refine VOk.mk rfl ?_ | refine VPur.mk rfl ?_ | refine VNat.mk _ rfl ?_ | refine VArith.fits (by unfold i64; omega) ?_ | refine vret_pf rfl ?_ | refine vret_take rfl rfl ?_ | refine VTch.mk _ rfl ?_)
  all_goals (try (conv => whnf))
  refine vcall_st rfl rfl rfl rfl rfl rfl (Finds.mono hb ?_)
  rintro _ _ ⟨rfl, rfl⟩
  refine vback rfl ?_
  repeat' ((conv => whnf) ; first | refine VIf.tt rfl ?_ | refine VIf.ff rfl ?_ | refine VIf.not ?_ | refine VIf.dtt (by assumption) ?_ | refine VIf.dff (by assumption) ?_ | refine VIf.dec (fun h => ?_) (fun h => ?_) | refine VIf.tt (by assumption) ?_ | refine VIf.ff (by assumption) ?_ | refine VIf.mk (fun h => ?_) (fun h => ?_) | refine VOk.mk rfl ?_ | refine VPur.mk rfl ?_ | refine VNat.mk _ rfl ?_ | refine VArith.fits (by unfold i64; omega) ?_ | refine vret_pf rfl ?_ | refine vret_take rfl rfl ?_ | refine VTch.mk _ rfl ?_)
  all_goals (try (conv => whnf))
  · have e : madeF (movF by_ from_) (.mk k nn s ls ts) = none := by rw [hm, if_pos (by assumption)]
    rw [e]
    rfl
  · have e : madeF (movF by_ from_) (.mk k nn s ls ts) = some bt := by rw [hm, if_neg (by assumption)]
    rw [e]
    simp only [putV]
    rw [he8]
    rfl
def raisedF (t : Tm) (by_ : Int) : Tm := (madeF (movF by_ 0) t).getD tz
set_option maxHeartbeats 1000000 in
set_option maxRecDepth 100000 in
theorem raised_can (by_ : Int) (hby : 0 ≤ by_ ∧ by_ ≤ 4194304) (t : Tm) (v : PV) (h : TmP t v) (p kk : Int) (hall : allT t p kk = true) (hk0 : 0 ≤ kk) (hk1 : kk + depT t ≤ 2251799813685248) :
    Pf C1 87 [v, iv by_] [encT (raisedF t by_)] := by
  have hm := moved_can by_ 0
  have hd := madeMoved_can by_ 0 hby (by omega) t v h p kk hall hk0 hk1
  obtain ⟨k, nn, s, ls, ts, b, z, xs, c, y, ys, rfl, rfl, -⟩ := h.open
  unfold raisedF
  cases he : madeF (movF by_ 0) (.mk k nn s ls ts) with
  | some x =>
    rw [he] at hd
    simp only [putV] at hd
    obtain ⟨k8, n8, s8, b8, z8, x8, c8, y8, ys8, he8⟩ := encT_open x
    simp only [Option.getD_some]
    rw [he8] at hd ⊢
    refine run_intro Tryz.func87 rfl rfl rfl ?_
    repeat' ((conv => whnf) ; first | refine VIf.tt rfl ?_ | refine VIf.ff rfl ?_ | refine VIf.not ?_ | refine VIf.dtt (by assumption) ?_ | refine VIf.dff (by assumption) ?_ | refine VIf.dec (fun h => ?_) (fun h => ?_) | refine VIf.tt (by assumption) ?_ | refine VIf.ff (by assumption) ?_ | refine VIf.mk (fun h => ?_) (fun h => ?_) | refine VOk.mk rfl ?_ | refine VPur.mk rfl ?_ | refine VNat.mk _ rfl ?_ | refine VArith.fits (by unfold i64; omega) ?_ | refine vret_pf rfl ?_ | refine vret_take rfl rfl ?_ | refine finds_pf hm (fun _ => ?_) | refine finds_pf hd (fun _ => ?_) | refine VTch.mk _ rfl ?_)
    all_goals (try (conv => whnf))
    all_goals rfl
  | none =>
    rw [he] at hd
    simp only [putV] at hd
    simp only [Option.getD_none]
    refine run_intro Tryz.func87 rfl rfl rfl ?_
    repeat' ((conv => whnf) ; first | refine VIf.tt rfl ?_ | refine VIf.ff rfl ?_ | refine VIf.not ?_ | refine VIf.dtt (by assumption) ?_ | refine VIf.dff (by assumption) ?_ | refine VIf.dec (fun h => ?_) (fun h => ?_) | refine VIf.tt (by assumption) ?_ | refine VIf.ff (by assumption) ?_ | refine VIf.mk (fun h => ?_) (fun h => ?_) | refine VOk.mk rfl ?_ | refine VPur.mk rfl ?_ | refine VNat.mk _ rfl ?_ | refine VArith.fits (by unfold i64; omega) ?_ | refine vret_pf rfl ?_ | refine vret_take rfl rfl ?_ | refine finds_pf hm (fun _ => ?_) | refine finds_pf hd (fun _ => ?_) | refine VTch.mk _ rfl ?_)
    all_goals (try (conv => whnf))
    all_goals rfl
end Go.Proofs.YtehhihdahalfeaaGreatDoor
namespace Go.Proofs.YtehhihdahalfeaaGreatDoor
open Go Go.Am Go.Gw
def insF (us : List Tm) (t : Tm) (d : Int) : Option Tm := if t.kind = 1 ∧ ¬ t.num - d < 0 then some (if (us.length : Int) ≤ t.num - d then .mk 1 (t.num - us.length) [] [] [] else raisedF (us.getD ((us.length : Int) - 1 - (t.num - d)).toNat tz) d) else none
theorem insF_var {us : List Tm} {t : Tm} {d : Int} (h : t.kind = 1 ∧ ¬ t.num - d < 0) (h2 : (us.length : Int) ≤ t.num - d) : insF us t d = some (.mk 1 (t.num - us.length) [] [] []) := by
  unfold insF
  rw [if_pos h, if_pos h2]
theorem insF_arg {us : List Tm} {t : Tm} {d : Int} (h : t.kind = 1 ∧ ¬ t.num - d < 0) (h2 : ¬ (us.length : Int) ≤ t.num - d) : insF us t d = some (raisedF (us.getD ((us.length : Int) - 1 - (t.num - d)).toNat tz) d) := by
  unfold insF
  rw [if_pos h, if_neg h2]
def insP (b : Bool) (z : Nat) (xs : List PV) : PV := .fn 85 [] [.cp [iv xs.length], .cp [.sl b z xs]]
set_option maxHeartbeats 1000000 in
set_option maxRecDepth 100000 in
theorem inst1_can (us : List Tm) (b : Bool) (z : Nat) (xs : List PV) (hz : z = 5 ∨ xs = []) (hxs : TmsP us xs) (hla : us.length ≤ 1048576) (has : ∀ a ∈ us, anyT a = true) (t : Tm) (v : PV) (h : TmP t v) (d : Int) (hd0 : 0 ≤ d) (hd1 : d ≤ 4194304) (h1 : 0 ≤ t.num ∧ t.num ≤ 2251799813685248) :
    Pf C1 85 [v, iv d, .cp [iv xs.length], .cp [.sl b z xs]] (putV (insF us t d)) := by
  have hlx := hxs.len
  have hv := Var_can (t.num - us.length)
  have hra : ∀ (q : Nat) a, us[q]? = some a → ∃ w, xs[q]? = some w ∧ TmP a w ∧ Pf C1 87 [w, iv d] [encT (raisedF a d)] := fun q a ha => by
    obtain ⟨w, hw, hl⟩ := hxs.at ha
    have hany := has a (List.mem_of_getElem? ha)
    have := any_dep hany
    exact ⟨w, hw, hl, raised_can d ⟨hd0, hd1⟩ a w hl 4 _ (any_parts hany).2 (by omega) (by omega)⟩
  obtain ⟨k, n, s, ls, ts, b0, z0, xs0, c0, y0, ys0, rfl, rfl, -⟩ := h.open
  simp only [Tm.num] at h1 hv
  rw [← hlx] at hv
  refine run_intro Tryz.func85 rfl rfl rfl ?_
  repeat' ((conv => whnf) ; first | refine VIf.tt rfl ?_ | refine VIf.ff rfl ?_ | refine VIf.not ?_ | refine VIf.dtt (by assumption) ?_ | refine VIf.dff (by assumption) ?_ | refine VIf.dec (fun h => ?_) (fun h => ?_) | refine VIf.tt (by assumption) ?_ | refine VIf.ff (by assumption) ?_ | refine VIf.mk (fun h => ?_) (fun h => ?_) | refine VOk.mk rfl ?_ | refine VPur.mk rfl ?_ | refine VNat.mk _ rfl ?_ | refine VArith.fits (by unfold i64; omega) ?_ | refine vret_pf rfl ?_ | refine vret_take rfl rfl ?_ | refine vcall_pf hv rfl rfl ?_ | refine VNat.nonneg (by omega) ?_ | refine VTch.mk _ rfl ?_)
  all_goals (try (conv => whnf))
  · have e : insF us (.mk k n s ls ts) d = none := by
      simp only [insF, Tm.kind, Tm.num]
      exact if_neg (by omega)
    rw [e]
    rfl
  · have e : insF us (.mk k n s ls ts) d = some (.mk 1 (n - xs.length) [] [] []) := by
      rw [insF_var (by simp only [Tm.kind, Tm.num]; omega) (by simp only [Tm.num]; omega), hlx]
      rfl
    rw [e]
    rfl
  · have hq : (((xs.length : Int) - 1 - (n - d)).toNat) < us.length := by omega
    obtain ⟨a, ha⟩ : ∃ a, us[((xs.length : Int) - 1 - (n - d)).toNat]? = some a := ⟨_, List.getElem?_eq_getElem hq⟩
    have e : insF us (.mk k n s ls ts) d = some (raisedF a d) := by
      rw [insF_arg (by simp only [Tm.kind, Tm.num]; omega) (by simp only [Tm.num]; omega), ← hlx, List.getD_eq_getElem?_getD]
      simp only [Tm.num]
      rw [ha]
      rfl
    obtain ⟨w, hw, hl, hr⟩ := hra _ a ha
    obtain ⟨k8, n8, s8, b8, z8, x8, c8, y8, ys8, he8⟩ := encT_open (raisedF a d)
    obtain ⟨k1, n1, s1, l1, t1, b2, z1, x1, c1, y1, ys1, rfl, rfl, -⟩ := hl.open
    rw [e]
    simp only [putV]
    rw [he8] at hr ⊢
    repeat' ((conv => whnf) ; first | refine VIf.tt rfl ?_ | refine VIf.ff rfl ?_ | refine VIf.not ?_ | refine VIf.dtt (by assumption) ?_ | refine VIf.dff (by assumption) ?_ | refine VIf.dec (fun h => ?_) (fun h => ?_) | refine VIf.tt (by assumption) ?_ | refine VIf.ff (by assumption) ?_ | refine VIf.mk (fun h => ?_) (fun h => ?_) | refine VOk.mk rfl ?_ | refine VPur.mk rfl ?_ | refine VNat.mk _ rfl ?_ | refine VArith.fits (by unfold i64; omega) ?_ | refine vret_pf rfl ?_ | refine vret_take rfl rfl ?_ | refine VIdx.mk _ hw ?_ | refine VOk.mk (szOk_of rfl hz) ?_ | refine vcall_pf hr rfl rfl ?_ | refine VTch.mk _ rfl ?_)
    all_goals (try (conv => whnf))
    rfl
  · have e : insF us (.mk k n s ls ts) d = none := by
      simp only [insF, Tm.kind, Tm.num]
      exact if_neg (by omega)
    rw [e]
    rfl
end Go.Proofs.YtehhihdahalfeaaGreatDoor
namespace Go.Proofs.YtehhihdahalfeaaGreatDoor
open Go Go.Am Go.Gw
def TmW (t : Tm) : Prop := TmP t (encT t)
theorem TmP.w {t : Tm} {v : PV} (h : TmP t v) : TmW t := encT_ok _ _ h
theorem tmsP_enc : ∀ {ts : List Tm}, (∀ t ∈ ts, TmW t) → TmsP ts (ts.map encT)
  | [], _ => by simp only [List.map_nil, TmsP]
  | t :: r, h => by
    simp only [List.map_cons, TmsP]
    exact ⟨_, _, rfl, h t (by simp), tmsP_enc fun x hx => h x (by simp [hx])⟩
theorem TmsP.ws : ∀ {ts : List Tm} {xs : List PV}, TmsP ts xs → ∀ t ∈ ts, TmW t
  | [], _, _, t, ht => by cases ht
  | a :: r, xs, h, t, ht => by
    simp only [TmsP] at h
    obtain ⟨v, xs', rfl, h1, h2⟩ := h
    rcases List.mem_cons.1 ht with rfl | ht
    · exact h1.w
    · exact TmsP.ws h2 t ht
theorem TmW.args {k n : Int} {s : List UInt8} {ls : List Lv} {ts : List Tm} (h : TmW (.mk k n s ls ts)) : (∀ t ∈ ts, TmW t) ∧ ts.length ≤ 1759218604441 := by
  unfold TmW at h
  simp only [TmP] at h
  obtain ⟨b, z, xs, c, y, ys, _, hz, hxs, hb, hy, hys, hc, hs, _⟩ := h
  exact ⟨hys.ws, hc⟩
theorem tmW_node {k n : Int} {ts : List Tm} (hn : i64 n) (hl : ts.length ≤ 1759218604441) (h : ∀ t ∈ ts, TmW t) : TmW (.mk k n [] [] ts) := by
  unfold TmW
  have h1 := tmsP_enc h
  rw [encT_mk]
  cases ts with
  | nil =>
    simp only [encTv, encLv, TmP, LvsP]
    exact ⟨_, _, _, _, _, _, rfl, .inr rfl, rfl, by simp, .inr rfl, h1, hl, by simp, hn⟩
  | cons a r =>
    rw [encTv_pos (by simp)]
    simp only [encLv, TmP, LvsP]
    exact ⟨_, _, _, _, _, _, rfl, .inr rfl, rfl, by simp, .inl rfl, h1, hl, by simp, hn⟩
theorem tmW_tz : TmW tz := tmW_node (by unfold i64; omega) (by simp) (by simp)
/-- it puts in what lies as a term -/
def PutOk (put : Tm → Int → Option Tm) : Prop := ∀ t d x, TmW t → (∃ p kk, allT t p kk = true ∧ 0 ≤ kk ∧ kk ≤ 2251799813685248) → 0 ≤ d → d ≤ 4194304 → put t d = some x → TmW x
theorem bldFs_length (put : Tm → Int → Option Tm) : ∀ (ts : List Tm) (k i d left : Int), (bldFs put ts k i d left).1.length = ts.length
  | [], k, i, d, left => by simp [bldFs]
  | t :: r, k, i, d, left => by simp only [bldFs, List.length_cons, bldFs_length put r]
mutual
theorem bldF_ok {put : Tm → Int → Option Tm} (hput : PutOk put) : ∀ (t : Tm) (p kk d left : Int), TmW t → allT t p kk = true → 0 ≤ kk → kk + depT t ≤ 2251799813685248 → 0 ≤ d → d + depT t ≤ 4194304 → TmW (bldF put t d left).1
  | .mk k n s ls ts, p, kk, d, left, hw, ha, hk0, hk1, hd0, hd1 => by
    rw [bldF]
    by_cases h0 : left < 0
    · rw [bldN_neg h0]
      exact tmW_tz
    · cases hp : put (.mk k n s ls ts) d with
      | some x =>
        rw [bldN_put h0 hp]
        exact hput _ d x hw ⟨p, kk, ha, hk0, by omega⟩ hd0 (by omega) hp
      | none =>
        by_cases hl : ts.length = 0
        · rw [bldN_leaf h0 hp hl]
          exact hw
        · rw [bldN_node h0 hp hl]
          obtain ⟨hk17, hlenk, hnode, -, hats⟩ := allT_parts ha
          rw [depT] at hk1 hd1
          refine tmW_node (by unfold i64; omega) (by rw [bldFs_length]; exact hw.args.2) ?_
          exact bldFs_ok hput ts k 0 p kk d (left - 1) hw.args.1 hats hk0 (by omega) hd0 (by omega)
theorem bldFs_ok {put : Tm → Int → Option Tm} (hput : PutOk put) : ∀ (ts : List Tm) (k i p kk d left : Int), (∀ t ∈ ts, TmW t) → allTs ts k i p kk = true → 0 ≤ kk → kk + 1 + depTs ts ≤ 2251799813685248 → 0 ≤ d → d + 1 + depTs ts ≤ 4194304 → ∀ x ∈ (bldFs put ts k i d left).1, TmW x
  | [], k, i, p, kk, d, left, hw, ha, hk0, hk1, hd0, hd1 => by simp [bldFs]
  | t :: r, k, i, p, kk, d, left, hw, ha, hk0, hk1, hd0, hd1 => by
    simp only [allTs, Bool.and_eq_true] at ha
    rw [depTs] at hk1 hd1
    have hi1 := innerF_bd (shBinds k) i kk
    have hi2 := innerF_bd (shBinds k) i d
    intro x hx
    simp only [bldFs, List.mem_cons] at hx
    rcases hx with rfl | hx
    · exact bldF_ok hput t p _ _ left (hw t (by simp)) ha.1 (by omega) (by omega) (by omega) (by omega)
    · exact bldFs_ok hput r k (i + 1) p kk d _ (fun y hy => hw y (by simp [hy])) ha.2 hk0 (by omega) hd0 (by omega) x hx
end
theorem movF_put {by_ from_ : Int} (hby : 0 ≤ by_ ∧ by_ ≤ 4194304) : PutOk (movF by_ from_) := by
  rintro ⟨k, n, s, ls, ts⟩ d x hw ⟨p, kk, ha, hk0, hk1⟩ hd0 hd1 h
  refine movF_ok h fun e => ?_
  have := nodeT_var (allT_parts ha).2.2.1 e
  simp only [Tm.num]
  unfold i64
  omega
theorem madeF_ok {put : Tm → Int → Option Tm} (hput : PutOk put) {t x : Tm} (hw : TmW t) {p kk : Int} (ha : allT t p kk = true) (hk0 : 0 ≤ kk) (hk1 : kk + depT t ≤ 2251799813685248) (hd : depT t ≤ 2000) (h : madeF put t = some x) : TmW x := by
  unfold madeF at h
  split at h
  · cases h
  · cases h
    exact bldF_ok hput t p kk 0 2000 hw ha hk0 hk1 (by omega) (by omega)
theorem raisedF_ok {by_ : Int} (hby : 0 ≤ by_ ∧ by_ ≤ 4194304) {t : Tm} (hw : TmW t) (ha : anyT t = true) : TmW (raisedF t by_) := by
  unfold raisedF
  cases h : madeF (movF by_ 0) t with
  | none => exact tmW_tz
  | some x =>
    have := any_dep ha
    exact madeF_ok (movF_put hby) hw (any_parts ha).2 (by omega) (by omega) this h
theorem insF_put {us : List Tm} (hw : ∀ u ∈ us, TmW u) (has : ∀ a ∈ us, anyT a = true) (hla : us.length ≤ 1048576) : PutOk (insF us) := by
  rintro ⟨k, n, s, ls, ts⟩ d x hwt ⟨p, kk, ha, hk0, hk1⟩ hd0 hd1 h
  by_cases hc : (Tm.mk k n s ls ts).kind = 1 ∧ ¬ (Tm.mk k n s ls ts).num - d < 0
  · have hv := nodeT_var (allT_parts ha).2.2.1 hc.1
    by_cases h3 : (us.length : Int) ≤ (Tm.mk k n s ls ts).num - d
    · rw [insF_var hc h3] at h
      cases h
      simp only [Tm.num] at *
      exact tmP_var (by unfold i64; omega)
    · rw [insF_arg hc h3] at h
      cases h
      simp only [Tm.num] at *
      have hq : ((us.length : Int) - 1 - (n - d)).toNat < us.length := by omega
      have hm : us.getD ((us.length : Int) - 1 - (n - d)).toNat tz ∈ us := by
        rw [List.getD_eq_getElem?_getD, List.getElem?_eq_getElem hq]
        exact List.getElem_mem hq
      exact raisedF_ok ⟨hd0, hd1⟩ (hw _ hm) (has _ hm)
  · unfold insF at h
    rw [if_neg hc] at h
    cases h
end Go.Proofs.YtehhihdahalfeaaGreatDoor

/-
  A constructor's form (posit.maker.ctor), for any family. No statement of the seat.
-/
import Derived.Test.YtehhihdahalfeaaGreatDoorZDc
set_option linter.unusedVariables false
set_option linter.unusedSimpArgs false
set_option linter.unnecessarySimpa false
namespace Go.Proofs.YtehhihdahalfeaaGreatDoor
open Go Go.Am Go.Gw
/-- a constructor's form -/
structure Co where
  fs : List Tm
  tg : List Tm
  ar : List Int
def ints (l : List Int) : List PV := l.map fun n => iv n
def CoP (c : Co) (v : PV) : Prop := ∃ b z xs b' z' xs' b'' z'', v = .ag [.sl b z xs, .sl b' z' xs', .sl b'' z'' (ints c.ar)] ∧ (z = 5 ∨ xs = []) ∧ TmsP c.fs xs ∧ (z' = 5 ∨ xs' = []) ∧ TmsP c.tg xs' ∧ (z'' = 1 ∨ c.ar = [])
/-- the arms of fields -/
def armsA (nm : List UInt8) (self : Tm) (fx idx : Int) : List Tm → Int → Option (List Int)
  | [], _ => some []
  | t :: r, deep => if (armsF nm self fx idx deep t).2 = true then (armsA nm self fx idx r (deep + 1)).map fun l => (armsF nm self fx idx deep t).1 :: l else none
def ctorF (nm : List UInt8) (self : Tm) (fx idx : Int) (t : Tm) : Int × Co :=
  let P := piF t
  let e := endF nm self fx idx P.1.length P.2
  if (P.1.length : Int) < fx ∨ e.2 = false then (18, ⟨[], [], []⟩)
  else if 16 < (P.1.drop fx.toNat).length then (15, ⟨[], [], []⟩)
  else match armsA nm self fx idx (P.1.drop fx.toNat) fx with
    | none => (21, ⟨[], [], []⟩)
    | some l => (0, ⟨P.1.drop fx.toNat, e.1, l⟩)
mutual
theorem dep_siz : ∀ t : Tm, depT t ≤ sizT t
  | .mk _ _ _ ls ts => by
    have := dep_sizs ts
    simp only [depT, sizT]
    omega
theorem dep_sizs : ∀ ts : List Tm, depTs ts ≤ sizTs ts
  | [] => by simp [depTs]
  | t :: r => by
    have h1 := dep_siz t
    have h2 := dep_sizs r
    simp only [depTs, sizTs]
    omega
end
theorem any_of {t : Tm} {p kk : Int} (h : allT t p kk = true) (hp : p ≤ 4) (hk : kk ≤ 1125899906842624) (hs : sizT t ≤ 2000) : anyT t = true := by
  have h5 := allT_more hp (Int.le_refl _) _ _ h
  have h6 := allT_mono _ 4 _ 1125899906842624 h5 hk
  have h7 : nodesT t ≤ 2000 := by rw [nodesT_eq]; omega
  simp [anyT, rightT, h6, h7]
theorem piF_dom : ∀ (t : Tm) (p kk : Int), allT t p kk = true → p ≤ 4 → kk + depT t ≤ 1125899906842624 → sizT t ≤ 2000 → ∀ a ∈ (piF t).1, anyT a = true
  | .mk k n s ls ts, p, kk, h, hp, hk, hs => by
    by_cases hk6 : k = 6
    · obtain ⟨a, b, rfl, ha, hb⟩ := allT_two h hk6
      subst hk6
      simp only [depT, depTs] at hk
      simp only [sizT, sizTs] at hs
      rw [piF_pi]
      intro c hc
      rcases List.mem_cons.1 hc with rfl | hc
      · exact any_of ha hp (by omega) (by omega)
      · exact piF_dom b p (kk + 1) hb hp (by omega) (by omega) c hc
    · rw [piF_off hk6]
      intro c hc
      simp at hc
theorem ctorF_eq {nm : List UInt8} {fx idx : Int} {self t : Tm} : ctorF nm self fx idx t = (if ((piF t).1.length : Int) < fx ∨ (endF nm self fx idx (piF t).1.length (piF t).2).2 = false then ((18 : Int), (⟨[], [], []⟩ : Co))
  else if 16 < ((piF t).1.drop fx.toNat).length then ((15 : Int), (⟨[], [], []⟩ : Co))
  else match armsA nm self fx idx ((piF t).1.drop fx.toNat) fx with
    | none => ((21 : Int), (⟨[], [], []⟩ : Co))
    | some l => ((0 : Int), (⟨(piF t).1.drop fx.toNat, (endF nm self fx idx (piF t).1.length (piF t).2).1, l⟩ : Co))) := rfl
theorem co_zero : CoP ⟨[], [], []⟩ (.ag [.sl true 0 [], .sl true 0 [], .sl true 0 []]) := ⟨_, _, _, _, _, _, _, _, rfl, .inr rfl, by simp only [TmsP], .inr rfl, by simp only [TmsP], .inr rfl⟩
def ctS (x y z : SO) (f g : PV) : List Int → Sto
  | [] => [x, y, z, .box 71 [f, g, .sl true 0 []]]
  | a :: r => [x, y, z, .box 71 [f, g, .ms 5 (r.length + 1)], .dead, .row false 3 1 (ints (a :: r))]
theorem ints_pure (l : List Int) (n : Nat) : (ints l).all (pur (n + 1)) = true := by
  rw [List.all_eq_true]
  intro x hx
  obtain ⟨y, -, rfl⟩ := List.mem_map.1 hx
  rfl
section
variable {nm : List UInt8} {p fx idx : Int} {self : Tm} {M : PV}
set_option maxHeartbeats 4000000 in
set_option maxRecDepth 100000 in
theorem ctor_can (hM : MkP nm p fx idx self M) (hfx : 0 ≤ fx ∧ fx ≤ 16) (hidx : 0 ≤ idx ∧ idx ≤ 16) (hp : p ≤ 4) (t : Tm) (v : PV) (hT : TmP t v) (hr : rightT t p 0 = true) :
    ∃ w, CoP (ctorF nm self fx idx t).2 w ∧ Pf C1 59 [M, v] [w, iv (ctorF nm self fx idx t).1] := by
  suffices key : Finds C1 59 [M, v] [] fun r _ => ∃ w, CoP (ctorF nm self fx idx t).2 w ∧ r = .ret [w, iv (ctorF nm self fx idx t).1] by
    obtain ⟨r, st', ⟨w, h1, rfl⟩, N, hN⟩ := key
    exact ⟨w, h1, _, st', rfl, N, hN⟩
  obtain ⟨hp4, -, hnd, hall⟩ := rightT_parts hr
  rw [show min (0 : Int) 1125899906842624 = 0 by omega] at hall
  have hany := rightT_any hr
  have hsz := any_siz hany
  have hdp := any_dep hany
  have hcnt := piF_count t p 0 hall hp4.2 (by omega) hsz
  have hbody := piF_body t p 0 hall
  have hsiz := piF_siz t
  have hpw := piF_w t hT.w
  have hspl : SplitF t 6 ((piF t).1.length : Int) = some (piF t) := by
    rw [SplitF, if_pos (by rw [hany]; simp [binderB]), Int.toNat_natCast, piF_split]
  have hs1 := Split_can t v hT 6 ((piF t).1.length : Int)
  have hcn := Count_can t v hT 6
  rw [hspl] at hs1
  rw [hcnt] at hcn
  have hln : (piF t).1.length ≤ 2000 := by omega
  have hsw := spF_w (piF t).2 hpw.1
  have hsd := spF_dep (piF t).2
  have hdz := dep_siz (piF t).2
  have hdom := piF_dom t p 0 hall hp4.2 (by omega) hsz
  obtain ⟨eb, ez, ex, hez, hex, hen⟩ := end_can hM hfx hidx (piF t).1.length ⟨by omega, by omega⟩ (piF t).2 _ hpw.1 (fun a ha => hsw.1 a (by simpa [argsF] using ha)) hsw.2 (by omega)
  have har := fun (deep : Int) (h1 : 0 ≤ deep ∧ deep ≤ 1000) (a : Tm) (ha : a ∈ (piF t).1) => arms_can hM hfx hidx deep h1 a (encT a) (hpw.2 a ha) (hdom a ha)
  have hcf := ctorF_eq (nm := nm) (fx := fx) (idx := idx) (self := self) (t := t)
  obtain ⟨k, a1, a2, a3, a4, a5, v1, v2, v3, v4, v5, cs, j1, j2, js, j3, j4, j5, j6, j7, j8, -⟩ := hM
  obtain ⟨f, rfl⟩ := Int.eq_ofNat_of_zero_le hfx.1
  rw [Int.toNat_natCast] at hcf
  generalize endF nm self (f : Int) idx (piF t).1.length (piF t).2 = E at hex hen hcf
  obtain ⟨etg, eok⟩ := E
  have hpl : ∀ a ∈ (piF t).1, TmW a := hpw.2
  generalize piF t = P at hs1 hcn hen hcf har hln hdom hpl
  obtain ⟨l, body⟩ := P
  dsimp only at hs1 hcn hen hcf har hln hdom hex hpl
  simp only [splitV] at hs1
  obtain ⟨bq, zq, hq, hzq⟩ := encTv_opn l
  obtain ⟨kb, nb, sb, bb, zb, xb, cb, yb, yb2, heb⟩ := encT_open body
  rw [hq, heb] at hs1
  rw [heb] at hen
  have hql : (l.map encT).length = l.length := by simp
  rw [← hql] at hen
  obtain ⟨k0, nn0, s0, ls0, ts0, b0, z0, xs0, c0, y0, ys0, rfl, rfl, -⟩ := hT.open
  refine run_intro Tryz.func59 rfl rfl rfl ?_
  repeat' ((conv => whnf) ; first | refine gT ?_ | refine gF ?_ | refine VIf.not ?_ | refine gA ?_ | refine gB ?_ | refine VIf.dec (fun h => ?_) (fun h => ?_) | refine gC ?_ | refine gD ?_ | refine VIf.mk (fun h => ?_) (fun h => ?_) | refine gO ?_ | refine gP ?_ | refine VNat.mk _ rfl ?_ | refine gV ?_ | refine vret_pf rfl ?_ | refine vret_take rfl rfl ?_ | refine vcall_pf hcn rfl rfl ?_ | refine vcall_pf hs1 rfl rfl ?_ | refine finds_pf hcn (fun _ => ?_) | refine finds_pf hs1 (fun _ => ?_) | refine vcall_pf hen rfl rfl ?_ | refine VOk.mk (szOk_of rfl hzq) ?_ | refine VNat.mk f rfl ?_ | refine VOk.mk (show (Nat.ble (l.map encT).length (l.map encT).length && Nat.ble f (l.map encT).length) = true by simp; omega) ?_ | refine gK ?_)
  all_goals (try (conv => whnf))
  all_goals try exact ⟨_, by rw [hcf, if_pos (by simp only; omega)]; exact co_zero, by rw [hcf, if_pos (by simp only; omega)]; rfl⟩
  all_goals try exact ⟨_, by rw [hcf, if_pos (by simp_all)]; exact co_zero, by rw [hcf, if_pos (by simp_all)]; rfl⟩
  · have hl1 : (List.drop f (List.take (l.map encT).length (l.map encT))).length = (l.drop f).length := by simp
    have hgt : 16 < (l.drop f).length := by omega
    have hok : eok = true := by assumption
    have hno : ¬ (((l.length : Int) < f) ∨ eok = false) := by
      rintro (e | e)
      · omega
      · simp_all
    exact ⟨_, by rw [hcf, if_neg hno, if_pos hgt]; exact co_zero, by rw [hcf, if_neg hno, if_pos hgt]; rfl⟩
  · have hXl : (List.drop f (List.take (l.map encT).length (l.map encT))).length = (l.drop f).length := by simp
    have hXe : List.drop f (List.take (l.map encT).length (l.map encT)) = (l.drop f).map encT := by rw [List.take_length, List.map_drop]
    have hle : (l.drop f).length ≤ 16 := by omega
    have hfl : f ≤ l.length := by omega
    obtain rfl : eok = true := by assumption
    have hcf1 : ctorF nm self f idx (.mk k0 nn0 s0 ls0 ts0) = (match armsA nm self f idx (l.drop f) f with
        | none => ((21 : Int), (⟨[], [], []⟩ : Co))
        | some q => ((0 : Int), (⟨l.drop f, etg, q⟩ : Co))) := by
      have hno : ¬ (((l.length : Int) < f) ∨ true = false) := by
        rintro (e | e)
        · omega
        · simp_all
      rw [hcf, if_neg hno, if_neg (by omega)]
    have hXP : TmsP (l.drop f) (List.drop f (List.take (l.map encT).length (l.map encT))) := by
      rw [hXe]
      exact tmsP_enc fun a ha => hpl a (List.mem_of_mem_drop ha)
    have hXz : zq = 5 ∨ List.drop f (List.take (l.map encT).length (l.map encT)) = [] := by
      rcases hzq with e | e
      · exact .inl e
      · rw [e]; exact .inr (by simp)
    have hmem : ∀ a ∈ l.drop f, a ∈ l := fun a ha => List.mem_of_mem_drop ha
    generalize hFd : l.drop f = F at hXl hXe hle hcf1 hXP hmem
    generalize List.drop f (List.take (l.map encT).length (l.map encT)) = X at hXl hXe hXP hXz ⊢
    refine loop_over (G := List Int) (fun g => [(62, iv g.length)]) (ctS (.box 25 [iv k0, iv nn0, sv s0, .sl b0 z0 xs0, .sl c0 y0 ys0]) (.box 71 [.sl true 0 [], .sl true 0 [], .sl true 0 []]) (.box 25 [iv kb, iv nb, sv sb, .sl bb zb xb, .sl cb yb yb2]) (.sl (bq && Nat.beq (l.map encT).length (l.map encT).length) zq X) (.sl eb ez ex)) (fun g => g.length ≤ F.length ∧ (armsA nm self f idx (F.drop g.length) (f + g.length)).map (g ++ ·) = armsA nm self f idx F f) (fun g => F.length - g.length) [] ⟨by simp, by simp⟩ rfl rfl ?_
    rintro g ⟨hi, hall⟩
    have hgl : g.length ≤ 16 := by omega
    have hstep : ∀ a, F[g.length]? = some a → (armsF nm self f idx (f + g.length) a).2 = true → (armsA nm self f idx (F.drop (g.length + 1)) (f + (g.length + 1))).map (fun q => (g ++ [(armsF nm self f idx (f + g.length) a).1]) ++ q) = armsA nm self f idx F f := fun a ha ht => by
      rw [drop_at ha, armsA, if_pos ht, Option.map_map] at hall
      rw [← hall, show (f : Int) + g.length + 1 = f + (g.length + 1) by omega]
      congr 1
      funext q
      simp
    have hfail : ∀ a, F[g.length]? = some a → ¬ (armsF nm self f idx (f + g.length) a).2 = true → ctorF nm self f idx (.mk k0 nn0 s0 ls0 ts0) = (21, ⟨[], [], []⟩) := fun a ha ht => by
      rw [drop_at ha, armsA, if_neg ht] at hall
      rw [hcf1, ← hall]
      rfl
    have hdone : ¬ g.length < F.length → ctorF nm self f idx (.mk k0 nn0 s0 ls0 ts0) = (0, ⟨F, etg, g⟩) := fun hn => by
      rw [List.drop_of_length_le (by omega), armsA] at hall
      rw [hcf1, ← hall]
      simp
    have hbad : ∀ {w : PV}, ctorF nm self f idx (.mk k0 nn0 s0 ls0 ts0) = (21, ⟨[], [], []⟩) → ∃ w, CoP (ctorF nm self f idx (.mk k0 nn0 s0 ls0 ts0)).2 w ∧ AEnd.ret [.ag [.sl true 0 [], .sl true 0 [], .sl true 0 []], iv 21] = .ret [w, iv (ctorF nm self f idx (.mk k0 nn0 s0 ls0 ts0)).1] := fun {w} e => ⟨_, by rw [e]; exact co_zero, by rw [e]⟩
    cases g with
    | nil =>
      simp only [ctS]
      repeat' ((conv => whnf) ; first | refine gT ?_ | refine gF ?_ | refine VIf.not ?_ | refine gA ?_ | refine gB ?_ | refine VIf.dec (fun h => ?_) (fun h => ?_) | refine gC ?_ | refine gD ?_ | refine VIf.mk (fun h => ?_) (fun h => ?_) | refine gO ?_ | refine gP ?_ | refine VNat.mk _ rfl ?_ | refine gV ?_ | refine vret_pf rfl ?_ | refine vret_take rfl rfl ?_ | refine gK ?_)
      all_goals (try (conv => whnf))
      · have h0 : 0 < F.length := by
          rename_i h
          have h : (0 : Int) < X.length := h
          omega
        obtain ⟨a, ha⟩ : ∃ a, F[0]? = some a := ⟨_, List.getElem?_eq_getElem h0⟩
        have hx : X[0]? = some (encT a) := by rw [hXe, List.getElem?_map, ha]; rfl
        have hA := har (f + (0 : Nat)) ⟨by omega, by omega⟩ a (hmem a (List.mem_of_getElem? ha))
        have hst := hstep a ha
        have hfa := hfail a ha
        obtain ⟨kk, n9, s9, b9, z9, x9, c9, y9, ys9, he9⟩ := encT_open a
        rw [he9] at hx hA
        simp only [List.length_nil] at hst hfa
        generalize armsF nm self (f : Int) idx (f + ((0 : Nat) : Int)) a = R at hA hst hfa
        obtain ⟨rn, rb⟩ := R
        repeat' ((conv => whnf) ; first | refine gT ?_ | refine gF ?_ | refine VIf.not ?_ | refine gA ?_ | refine gB ?_ | refine VIf.dec (fun h => ?_) (fun h => ?_) | refine gC ?_ | refine gD ?_ | refine VIf.mk (fun h => ?_) (fun h => ?_) | refine gO ?_ | refine gP ?_ | refine VNat.mk _ rfl ?_ | refine gV ?_ | refine vret_pf rfl ?_ | refine vret_take rfl rfl ?_ | refine VIdx.mk _ hx ?_ | refine VOk.mk (szOk_of rfl hXz) ?_ | refine vcall_pf hA rfl rfl ?_ | refine finds_pf hA (fun _ => ?_) | refine gK ?_)
        all_goals (try (conv => whnf))
        · refine VAgain.mk _ rfl _ (gc_sh (.cons (sh_box rfl rfl) (.cons (sh_box rfl rfl) (.cons (sh_box rfl rfl) (.cons (sh_box rfl rfl) (.cons (sh_box rfl rfl) (.cons (sh_row rfl) .nil)))))) (.cons (sh_box rfl rfl) (.cons (sh_box rfl rfl) (.cons (sh_box rfl rfl) (.cons (sh_box rfl rfl) (.cons sh_dead (.cons (sh_row rfl) .nil)))))) rfl rfl rfl rfl rfl) ⟨[rn], ⟨by simp only [List.length_cons, List.length_nil]; omega, ?_⟩, by simp only [List.length_cons, List.length_nil]; omega, rfl⟩
          exact hst (by assumption)
        · exact hbad (w := default) (hfa (by intro e; first | contradiction | (rename_i h; exact absurd (e.symm.trans h) (by decide))))
      · have h0 : ¬ 0 < F.length := by
          rename_i h
          have h : ¬ (0 : Int) < X.length := h
          omega
        have hd := hdone h0
        refine ⟨(.ag [.sl (bq && Nat.beq (l.map encT).length (l.map encT).length) zq X, .sl eb ez ex, .sl true 0 []]), ?_, by rw [hd]; rfl⟩
        rw [hd]
        exact ⟨_, _, _, _, _, _, _, _, rfl, hXz, hXP, hez, hex, .inr rfl⟩
    | cons q r =>
      have hgl1 : r.length + 1 ≤ 16 := hgl
      simp only [ctS]
      repeat' ((conv => whnf) ; first | refine gT ?_ | refine gF ?_ | refine VIf.not ?_ | refine gA ?_ | refine gB ?_ | refine VIf.dec (fun h => ?_) (fun h => ?_) | refine gC ?_ | refine gD ?_ | refine VIf.mk (fun h => ?_) (fun h => ?_) | refine gO ?_ | refine gP ?_ | refine VNat.mk _ rfl ?_ | refine gV ?_ | refine vret_pf rfl ?_ | refine vret_take rfl rfl ?_ | refine gK ?_)
      all_goals (try (conv => whnf))
      · have h0 : (q :: r).length < F.length := by
          rename_i h
          have h : (((q :: r).length : Nat) : Int) < X.length := h
          omega
        obtain ⟨a, ha⟩ : ∃ a, F[(q :: r).length]? = some a := ⟨_, List.getElem?_eq_getElem h0⟩
        have hx : X[(q :: r).length]? = some (encT a) := by rw [hXe, List.getElem?_map, ha]; rfl
        have hA := har (f + ((q :: r).length : Nat)) ⟨by omega, by omega⟩ a (hmem a (List.mem_of_getElem? ha))
        have hst := hstep a ha
        have hfa := hfail a ha
        obtain ⟨kk, n9, s9, b9, z9, x9, c9, y9, ys9, he9⟩ := encT_open a
        rw [he9] at hx hA
        generalize armsF nm self (f : Int) idx (f + (((q :: r).length : Nat) : Int)) a = R at hA hst hfa
        obtain ⟨rn, rb⟩ := R
        have hil : (ints (q :: r)).length = r.length + 1 := by simp [ints]
        have hp8 : (ints (q :: r) ++ [iv rn]).all (pur 8) = true := by
          rw [show ints (q :: r) ++ [iv rn] = ints (q :: r ++ [rn]) by simp [ints]]
          exact ints_pure _ 7
        repeat' ((conv => whnf) ; first | refine gT ?_ | refine gF ?_ | refine VIf.not ?_ | refine gA ?_ | refine gB ?_ | refine VIf.dec (fun h => ?_) (fun h => ?_) | refine gC ?_ | refine gD ?_ | refine VIf.mk (fun h => ?_) (fun h => ?_) | refine gO ?_ | refine gP ?_ | refine VNat.mk _ rfl ?_ | refine gV ?_ | refine vret_pf rfl ?_ | refine vret_take rfl rfl ?_ | refine VIdx.mk _ hx ?_ | refine VOk.mk (szOk_of rfl hXz) ?_ | refine vcall_pf hA rfl rfl ?_ | refine finds_pf hA (fun _ => ?_) | refine VOk.mk (grow_ok (w := 8) (r := 140737488355328) hil rfl rfl rfl rfl (by simp only [List.length_cons, List.length_nil]; omega) (by simp only [List.length_cons, List.length_nil]; omega)) ?_ | refine gK ?_)
        all_goals (try (conv => whnf))
        · refine VAgain.mk _ rfl _ (gc_sh (.cons (sh_box rfl rfl) (.cons (sh_box rfl rfl) (.cons (sh_box rfl rfl) (.cons (sh_box rfl rfl) (.cons sh_dead (.cons (sh_row hp8) (.cons (sh_box rfl rfl) .nil))))))) (.cons (sh_box rfl rfl) (.cons (sh_box rfl rfl) (.cons (sh_box rfl rfl) (.cons (sh_box rfl rfl) (.cons sh_dead (.cons (sh_row hp8) .nil)))))) rfl rfl rfl rfl rfl) ⟨q :: r ++ [rn], ⟨by simp only [List.length_cons, List.length_append, List.length_nil] at h0 ⊢; omega, ?_⟩, by simp only [List.length_cons, List.length_append, List.length_nil] at h0 ⊢; omega, ?_⟩
          · have := hst (by assumption)
            simp only [List.length_cons, List.length_append, List.length_nil] at this ⊢
            exact this
          · have e1 : ints (q :: (r ++ [rn])) = ints (q :: r) ++ [iv rn] := by simp [ints]
            have e2 : (r ++ [rn]).length + 1 = r.length + 1 + 1 := by simp
            have e3 : (((q :: r ++ [rn]).length : Nat) : Int) = ((q :: r).length : Int) + 1 := by simp
            dsimp only [ctS, List.cons_append]
            rw [e1, e2]
            simp only [List.cons_append] at e3
            rw [e3]
            rfl
        · exact hbad (w := default) (hfa (by intro e; first | contradiction | (rename_i h; exact absurd (e.symm.trans h) (by decide))))
      · have h0 : ¬ (q :: r).length < F.length := by
          rename_i h
          have h : ¬ (((q :: r).length : Nat) : Int) < X.length := h
          omega
        have hd := hdone h0
        refine vret_pub rfl (mapS_cons (pubV_ag (mapS_cons rfl (mapS_cons rfl (mapS_cons (pubV_row rfl (by simp [ints]) (ints_pure _ 5)) mapS_nil)))) (mapS_cons rfl mapS_nil)) rfl ?_
        refine ⟨(.ag [.sl (bq && Nat.beq (l.map encT).length (l.map encT).length) zq X, .sl eb ez ex, .sl false 1 (ints (q :: r))]), ?_, by rw [hd]⟩
        rw [hd]
        exact ⟨_, _, _, _, _, _, _, _, rfl, hXz, hXP, hez, hex, .inl rfl⟩
end
end Go.Proofs.YtehhihdahalfeaaGreatDoor

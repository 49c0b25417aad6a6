/-
  slices.Reverse at a row of terms, and a term's head with what it is applied to (term.Spine). No statement of the seat.
-/
import Derived.Test.YtehhihdahalfeaaGreatDoorZLj
import Derived.Test.YtehhihdahalfeaaGreatDoorZTw
import Derived.Test.YtehhihdahalfeaaGreatDoorZBe
set_option linter.unusedVariables false
set_option linter.unusedSimpArgs false
set_option linter.unnecessarySimpa false
namespace Go.Proofs.YtehhihdahalfeaaGreatDoor
open Go Go.Am Go.Gw
/-- a term's head; what it is applied to, the last one first -/
def spF : Tm → Tm × List Tm
  | .mk k n s ls ts => match ts with
    | [f, a] => if k = 4 then ((spF f).1, a :: (spF f).2) else (.mk k n s ls [f, a], [])
    | ts => (.mk k n s ls ts, [])
/-- how far a row is turned -/
def Turned (ts us : List Tm) (i : Nat) : Prop := us.length = ts.length ∧ ∀ j, j < ts.length → us[j]? = if j < i ∨ ts.length ≤ j + i then ts[ts.length - 1 - j]? else ts[j]?
theorem turned_0 (ts : List Tm) : Turned ts ts 0 := ⟨rfl, fun j hj => by rw [if_neg (by omega)]⟩
theorem turned_end {ts us : List Tm} {i : Nat} (h : Turned ts us i) (hi : ts.length ≤ 2 * i + 1) : us = ts.reverse := by
  apply List.ext_getElem?
  intro j
  rcases Nat.lt_or_ge j ts.length with hj | hj
  · rw [h.2 j hj, List.getElem?_reverse hj]
    split
    · rfl
    · rw [show ts.length - 1 - j = j by omega]
  · rw [List.getElem?_eq_none (by rw [h.1]; exact hj), List.getElem?_eq_none (by simpa using hj)]
theorem turned_next {ts us : List Tm} {i : Nat} {a b : Tm} (h : Turned ts us i) (hi : 2 * i + 1 < ts.length) (ha : us[i]? = some a) (hb : us[ts.length - 1 - i]? = some b) : Turned ts ((us.set i b).set (ts.length - 1 - i) a) (i + 1) := by
  obtain ⟨hl, h⟩ := h
  refine ⟨by simp [hl], fun j hj => ?_⟩
  rw [h i (by omega), if_neg (by omega)] at ha
  rw [h _ (by omega), if_neg (by omega)] at hb
  rw [List.getElem?_set, List.getElem?_set]
  by_cases h1 : ts.length - 1 - i = j
  · rw [if_pos h1, if_pos (by simp [hl]; omega), if_pos (by omega), ← ha]
    congr 1
    omega
  · rw [if_neg h1]
    by_cases h2 : i = j
    · subst h2
      rw [if_pos rfl, if_pos (by simp [hl]; omega), if_pos (by omega), ← hb]
    · rw [if_neg h2, h j hj]
      by_cases h3 : j < i ∨ ts.length ≤ j + i
      · rw [if_pos h3, if_pos (by omega)]
      · rw [if_neg h3, if_neg (by omega)]
set_option maxHeartbeats 2000000 in
set_option maxRecDepth 100000 in
theorem Reverse_can (ts : List Tm) (hl : ts.length ≤ 1000000) : Finds C1 165 [.ms 0 ts.length] [.row false 25 5 (ts.map encT)] fun r st => r = .ret [] ∧ st = [.row false 25 5 (ts.reverse.map encT)] := by
  have hbl : Nat.beq ts.length (ts.map encT).length = true := by simp
  refine run_intro Tryz.func165 rfl rfl rfl ?_
  repeat' ((conv => whnf) ; first | refine VIf.tt rfl ?_ | refine VIf.ff rfl ?_ | refine VIf.not ?_ | refine VIf.dtt (by assumption) ?_ | refine VIf.dff (by assumption) ?_ | refine VIf.dec (fun h => ?_) (fun h => ?_) | refine VIf.tt (by assumption) ?_ | refine VIf.ff (by assumption) ?_ | refine VIf.mk (fun h => ?_) (fun h => ?_) | refine VOk.mk rfl ?_ | refine VPur.mk rfl ?_ | refine VNat.mk _ rfl ?_ | refine VArith.fits (by unfold i64; omega) ?_ | refine vret_pf rfl ?_ | refine vret_take rfl rfl ?_ | refine VOk.mk hbl ?_ | refine VTch.mk _ rfl ?_)
  all_goals (try (conv => whnf))
  refine loop_over (G := Nat × List Tm) (fun g => [(2, iv g.1), (3, iv ((ts.length : Int) - 1 - g.1))]) (fun g => [.row false 25 5 (g.2.map encT)]) (fun g => 2 * g.1 ≤ ts.length ∧ Turned ts g.2 g.1) (fun g => ts.length - g.1) (0, ts) ⟨by omega, turned_0 ts⟩ (by rw [show ((ts.length : Int) - 1 - ((0 : Nat) : Int)) = ts.length - 1 by omega]; rfl) rfl ?_
  rintro ⟨i, us⟩ ⟨hi, ht⟩
  dsimp only at hi ht ⊢
  have hul : us.length = ts.length := ht.1
  repeat' ((conv => whnf) ; first | refine VIf.tt rfl ?_ | refine VIf.ff rfl ?_ | refine VIf.not ?_ | refine VIf.dtt (by assumption) ?_ | refine VIf.dff (by assumption) ?_ | refine VIf.dec (fun h => ?_) (fun h => ?_) | refine VIf.tt (by assumption) ?_ | refine VIf.ff (by assumption) ?_ | refine VIf.mk (fun h => ?_) (fun h => ?_) | refine VOk.mk rfl ?_ | refine VPur.mk rfl ?_ | refine VNat.mk _ rfl ?_ | refine VArith.fits (by unfold i64; omega) ?_ | refine vret_pf rfl ?_ | refine vret_take rfl rfl ?_ | refine VTch.mk _ rfl ?_)
  all_goals (try (conv => whnf))
  · have hlt : 2 * i + 1 < ts.length := by omega
    obtain ⟨a, ha⟩ : ∃ a, us[i]? = some a := ⟨_, List.getElem?_eq_getElem (by omega)⟩
    obtain ⟨c, hc⟩ : ∃ c, us[ts.length - 1 - i]? = some c := ⟨_, List.getElem?_eq_getElem (by omega)⟩
    have hae : (us.map encT)[i]? = some (encT a) := by rw [List.getElem?_map, ha]; rfl
    have hce : (us.map encT)[ts.length - 1 - i]? = some (encT c) := by rw [List.getElem?_map, hc]; rfl
    have hn := turned_next ht hlt ha hc
    obtain ⟨k1, n1, s1, b1, z1, x1, c1, y1, ys1, he1⟩ := encT_open a
    obtain ⟨k2, n2, s2, b2, z2, x2, c2, y2, ys2, he2⟩ := encT_open c
    rw [he1] at hae
    rw [he2] at hce
    have o1 : (Nat.beq ts.length (us.map encT).length && Nat.blt (ts.length - 1 - i) ts.length && Nat.beq 5 5) = true := by simp [hul, Nat.blt_eq]; omega
    have o2 : (Nat.beq ts.length (us.map encT).length && Nat.blt i ts.length && Nat.beq 5 5) = true := by simp [hul, Nat.blt_eq]; omega
    have hub : Nat.beq ts.length (us.map encT).length = true := by simp [hul]
    have o3 : ∀ e : PV, (Nat.beq ts.length ((us.map encT).set i e).length && Nat.blt (ts.length - 1 - i) ts.length && Nat.beq 5 5) = true := fun e => by simp [hul, Nat.blt_eq]; omega
    have o4 : ∀ e : PV, Nat.beq ts.length ((us.map encT).set i e).length = true := fun e => by simp [hul]
    have hce2 : ∀ e : PV, ((us.map encT).set i e)[ts.length - 1 - i]? = some (.ag [iv k2, iv n2, sv s2, .sl b2 z2 x2, .sl c2 y2 ys2]) := fun e => by rw [List.getElem?_set_ne (by omega)]; exact hce
    repeat' ((conv => whnf) ; first | refine VIf.tt rfl ?_ | refine VIf.ff rfl ?_ | refine VIf.not ?_ | refine VIf.dtt (by assumption) ?_ | refine VIf.dff (by assumption) ?_ | refine VIf.dec (fun h => ?_) (fun h => ?_) | refine VIf.tt (by assumption) ?_ | refine VIf.ff (by assumption) ?_ | refine VIf.mk (fun h => ?_) (fun h => ?_) | refine VOk.mk rfl ?_ | refine VPur.mk rfl ?_ | refine VNat.mk _ rfl ?_ | refine VArith.fits (by unfold i64; omega) ?_ | refine vret_pf rfl ?_ | refine vret_take rfl rfl ?_ | refine VOk.mk hub ?_ | refine VOk.mk (o3 _) ?_ | refine VOk.mk (o4 _) ?_ | refine VIdx.mk _ (hce2 _) ?_ | refine VNat.mk (ts.length - 1 - i) (show ((ts.length : Int) - 1 - i) = ((ts.length - 1 - i : Nat) : Int) by omega) ?_ | refine VNat.mk i rfl ?_ | refine VOk.mk o1 ?_ | refine VOk.mk o2 ?_ | refine VIdx.mk _ hae ?_ | refine VIdx.mk _ hce ?_ | refine VTch.mk _ rfl ?_)
    all_goals (try (conv => whnf))
    refine VAgain.mk _ rfl _ (gc_same rfl) ⟨(i + 1, (us.set i c).set (ts.length - 1 - i) a), ⟨by dsimp only; omega, hn⟩, by dsimp only; omega, ?_⟩
    dsimp only
    rw [List.map_set, List.map_set, he1, he2, show ((ts.length : Int) - 1 - ((i + 1 : Nat) : Int)) = ts.length - 1 - i - 1 by omega]
    rfl
  · obtain rfl := turned_end ht (by omega)
    exact vret_take_shr rfl rfl (.cons (shr_row (encTs_pure _ 6)) .nil) rfl ⟨rfl, rfl⟩
theorem reverseNil_can : Pf C1 165 [.sl true 0 []] [] := pf_of (st' := []) 20 (by kernel_rfl)
theorem spF_app {n : Int} {s : List UInt8} {ls : List Lv} {f a : Tm} : spF (.mk 4 n s ls [f, a]) = ((spF f).1, a :: (spF f).2) := by
  rw [spF, if_pos rfl]
theorem spF_off {k n : Int} {s : List UInt8} {ls : List Lv} {ts : List Tm} (h : ¬ (k = 4 ∧ ts.length = 2)) : spF (.mk k n s ls ts) = (.mk k n s ls ts, []) := by
  unfold spF
  split
  · rw [if_neg (fun e => h ⟨e, rfl⟩)]
  · rfl
/-- what a term is applied to -/
def argsF (t : Tm) : List Tm := (spF t).2.reverse
def spS (z : List PV) (g : List Tm × Tm × PV) : Sto := match g.1 with
  | [] => [.box 25 g.2.2.cells, .box 25 z]
  | a :: r => [.box 25 g.2.2.cells, .box 25 z, .row false 25 5 ((a :: r).map encT)]
set_option maxHeartbeats 2000000 in
set_option maxRecDepth 100000 in
theorem Spine_can (t : Tm) (v : PV) (hT : TmP t v) (hbd : (spF t).2.length ≤ 2000) : Pf C1 121 [v] [encT (spF t).1, encTv (argsF t)] := by
  obtain ⟨k0, nn0, s0, ls0, ts0, b0, z0, xs0, c0, y0, ys0, rfl, rfl, -⟩ := hT.open
  refine run_intro Tryz.func121 rfl rfl rfl ?_
  repeat' ((conv => whnf) ; first | refine VIf.tt rfl ?_ | refine VIf.ff rfl ?_ | refine VIf.not ?_ | refine VIf.dtt (by assumption) ?_ | refine VIf.dff (by assumption) ?_ | refine VIf.dec (fun h => ?_) (fun h => ?_) | refine VIf.tt (by assumption) ?_ | refine VIf.ff (by assumption) ?_ | refine VIf.mk (fun h => ?_) (fun h => ?_) | refine VOk.mk rfl ?_ | refine VPur.mk rfl ?_ | refine VNat.mk _ rfl ?_ | refine VArith.fits (by unfold i64; omega) ?_ | refine vret_pf rfl ?_ | refine vret_take rfl rfl ?_ | refine VTch.mk _ rfl ?_)
  all_goals (try (conv => whnf))
  refine loop_over (G := List Tm × Tm × PV) (fun g => [(4, match g.1 with
        | [] => .sl true 0 []
        | a :: r => .ms 2 (r.length + 1))]) (spS zTm) (fun g => TmP g.2.1 g.2.2 ∧ (spF g.2.1).1 = (spF (.mk k0 nn0 s0 ls0 ts0)).1 ∧ g.1 ++ (spF g.2.1).2 = (spF (.mk k0 nn0 s0 ls0 ts0)).2) (fun g => sizT g.2.1) ([], .mk k0 nn0 s0 ls0 ts0, .ag [iv k0, iv nn0, sv s0, .sl b0 z0 xs0, .sl c0 y0 ys0]) ⟨hT, rfl, rfl⟩ rfl rfl ?_
  rintro ⟨don, u, w⟩ ⟨hu, hh, ha⟩
  dsimp only at hu hh ha
  have hfr := fresh_can u w hu
  obtain ⟨k9, n9, s9, b9, z9, x9, c9, y9, ys9, he9⟩ := encT_open u
  have hlen : don.length + (spF u).2.length ≤ 2000 := by rw [← List.length_append, ha]; exact hbd
  rw [he9] at hfr
  obtain ⟨k, nn, s, ls, ts, b, z, xs, c, y, ys, rfl, rfl, hz, hxs, hlen1, hbd1, hy, hys, hlen2, hbd2, hsl⟩ := hu.open
  have hround : k = 4 → ts.length = 2 → ∃ f a, ts = [f, a] ∧ (spF f).1 = (spF (.mk k0 nn0 s0 ls0 ts0)).1 ∧ (don ++ [a]) ++ (spF f).2 = (spF (.mk k0 nn0 s0 ls0 ts0)).2 ∧ don.length + 1 ≤ 2000 := by
    rintro rfl h2
    match ts, h2 with
    | [f, a], _ =>
      rw [spF_app] at hh ha hlen
      refine ⟨f, a, rfl, hh, ?_, ?_⟩
      · rw [List.append_assoc]
        exact ha
      · simp only [List.length_cons] at hlen
        omega
  have hend : ¬ (k = 4 ∧ ts.length = 2) → (spF (.mk k0 nn0 s0 ls0 ts0)).1 = .mk k nn s ls ts ∧ (spF (.mk k0 nn0 s0 ls0 ts0)).2 = don := fun h => by
    rw [spF_off h] at hh ha
    exact ⟨hh.symm, by simpa using ha.symm⟩
  cases don with
  | nil =>
    simp only [PV.cells, spS]
    repeat' ((conv => whnf) ; first | refine VIf.tt rfl ?_ | refine VIf.ff rfl ?_ | refine VIf.not ?_ | refine VIf.dtt (by assumption) ?_ | refine VIf.dff (by assumption) ?_ | refine VIf.dec (fun h => ?_) (fun h => ?_) | refine VIf.tt (by assumption) ?_ | refine VIf.ff (by assumption) ?_ | refine VIf.mk (fun h => ?_) (fun h => ?_) | refine VOk.mk rfl ?_ | refine VPur.mk rfl ?_ | refine VNat.mk _ rfl ?_ | refine VArith.fits (by unfold i64; omega) ?_ | refine vret_pf rfl ?_ | refine vret_take rfl rfl ?_ | refine vcall_pf hfr rfl rfl ?_ | refine vcall_pf reverseNil_can rfl rfl ?_ | refine VTch.mk _ rfl ?_)
    all_goals (try (conv => whnf))
    · obtain ⟨f1, a1, rfl, hh1, ha1, hl1⟩ := hround (by assumption) (by omega)
      obtain ⟨va, hva, hla⟩ := hys.at (by rfl : [f1, a1][1]? = some a1)
      obtain ⟨vb, hvb, hlb⟩ := hys.at (by rfl : [f1, a1][0]? = some f1)
      have hAa := fresh_can a1 va hla
      obtain ⟨k3, n3, s3, b3, z3, x3, c3, y3, ys3, he3⟩ := encT_open a1
      rw [he3] at hAa
      obtain ⟨k1, n1, s1, l1, t1, b4, z1, x1, c1, y1, ys1, rfl, rfl, -⟩ := hla.open
      obtain ⟨k2, n2, s2, l2, t2, b5, z2, x2, c2, y2, ys2, rfl, rfl, -⟩ := hlb.open
      repeat' ((conv => whnf) ; first | refine VIf.tt rfl ?_ | refine VIf.ff rfl ?_ | refine VIf.not ?_ | refine VIf.dtt (by assumption) ?_ | refine VIf.dff (by assumption) ?_ | refine VIf.dec (fun h => ?_) (fun h => ?_) | refine VIf.tt (by assumption) ?_ | refine VIf.ff (by assumption) ?_ | refine VIf.mk (fun h => ?_) (fun h => ?_) | refine VOk.mk rfl ?_ | refine VPur.mk rfl ?_ | refine VNat.mk _ rfl ?_ | refine VArith.fits (by unfold i64; omega) ?_ | refine vret_pf rfl ?_ | refine vret_take rfl rfl ?_ | refine VIdx.mk _ hva ?_ | refine VIdx.mk _ hvb ?_ | refine VOk.mk (szOk_of rfl hy) ?_ | refine vcall_pf hAa rfl rfl ?_ | refine VTch.mk _ rfl ?_)
      all_goals (try (conv => whnf))
      have e : [Tm.mk k1 n1 s1 l1 t1].map encT = [.ag [iv k3, iv n3, sv s3, .sl b3 z3 x3, .sl c3 y3 ys3]] := by rw [List.map_cons, he3]; rfl
      exact VAgain.mk _ rfl _ (gc_sh (.cons (sh_box rfl rfl) (.cons (sh_box rfl rfl) (.cons (sh_row rfl) .nil))) (.cons (sh_box rfl rfl) (.cons (sh_box rfl rfl) (.cons (sh_row rfl) .nil))) rfl rfl rfl rfl rfl) ⟨([Tm.mk k1 n1 s1 l1 t1], Tm.mk k2 n2 s2 l2 t2, .ag [iv k2, iv n2, sv s2, .sl b5 z2 x2, .sl c2 y2 ys2]), ⟨hlb, hh1, ha1⟩, by simp only [sizT, sizTs]; omega, by dsimp only [spS]; rw [e]; rfl⟩
    all_goals
      obtain ⟨e1, e2⟩ := hend (by omega)
      have e3 : argsF (.mk k0 nn0 s0 ls0 ts0) = [] := by rw [argsF, e2]; rfl
      rw [e1, e3, he9]
      rfl
  | cons d dr =>
    simp only [PV.cells, spS]
    have hbl : Nat.beq (dr.length + 1) ((d :: dr).map encT).length = true := by simp
    have hrv := Reverse_can (d :: dr) (by simp only [List.length_cons] at hlen ⊢; omega)
    repeat' ((conv => whnf) ; first | refine VIf.tt rfl ?_ | refine VIf.ff rfl ?_ | refine VIf.not ?_ | refine VIf.dtt (by assumption) ?_ | refine VIf.dff (by assumption) ?_ | refine VIf.dec (fun h => ?_) (fun h => ?_) | refine VIf.tt (by assumption) ?_ | refine VIf.ff (by assumption) ?_ | refine VIf.mk (fun h => ?_) (fun h => ?_) | refine VOk.mk rfl ?_ | refine VPur.mk rfl ?_ | refine VNat.mk _ rfl ?_ | refine VArith.fits (by unfold i64; omega) ?_ | refine vret_pf rfl ?_ | refine vret_take rfl rfl ?_ | refine VOk.mk hbl ?_ | refine vcall_pf hfr rfl rfl ?_ | refine VTch.mk _ rfl ?_)
    all_goals (try (conv => whnf))
    · obtain ⟨f1, a1, rfl, hh1, ha1, hl1⟩ := hround (by assumption) (by omega)
      obtain ⟨va, hva, hla⟩ := hys.at (by rfl : [f1, a1][1]? = some a1)
      obtain ⟨vb, hvb, hlb⟩ := hys.at (by rfl : [f1, a1][0]? = some f1)
      have hAa := fresh_can a1 va hla
      obtain ⟨k3, n3, s3, b3, z3, x3, c3, y3, ys3, he3⟩ := encT_open a1
      rw [he3] at hAa
      obtain ⟨k1, n1, s1, l1, t1, b4, z1, x1, c1, y1, ys1, rfl, rfl, -⟩ := hla.open
      obtain ⟨k2, n2, s2, l2, t2, b5, z2, x2, c2, y2, ys2, rfl, rfl, -⟩ := hlb.open
      have hp8 : ((d :: dr).map encT ++ [PV.ag [iv k3, iv n3, sv s3, .sl b3 z3 x3, .sl c3 y3 ys3]]).all (pur 8) = true := by
        rw [← he3, show (d :: dr).map encT ++ [encT (Tm.mk k1 n1 s1 l1 t1)] = (d :: dr ++ [Tm.mk k1 n1 s1 l1 t1]).map encT by simp]
        exact encTs_pure _ 6
      repeat' ((conv => whnf) ; first | refine VIf.tt rfl ?_ | refine VIf.ff rfl ?_ | refine VIf.not ?_ | refine VIf.dtt (by assumption) ?_ | refine VIf.dff (by assumption) ?_ | refine VIf.dec (fun h => ?_) (fun h => ?_) | refine VIf.tt (by assumption) ?_ | refine VIf.ff (by assumption) ?_ | refine VIf.mk (fun h => ?_) (fun h => ?_) | refine VOk.mk rfl ?_ | refine VPur.mk rfl ?_ | refine VNat.mk _ rfl ?_ | refine VArith.fits (by unfold i64; omega) ?_ | refine vret_pf rfl ?_ | refine vret_take rfl rfl ?_ | refine VIdx.mk _ hva ?_ | refine VIdx.mk _ hvb ?_ | refine VOk.mk (szOk_of rfl hy) ?_ | refine vcall_pf hAa rfl rfl ?_ | refine VOk.mk (grow_ok (w := 80) (r := 140737488355328) (by simp : ((d :: dr).map encT).length = dr.length + 1) rfl rfl rfl rfl (by simp only [List.length_cons, List.length_nil] at hl1 ⊢; omega) (by simp only [List.length_cons, List.length_nil] at hl1 ⊢; omega)) ?_ | refine VTch.mk _ rfl ?_)
      all_goals (try (conv => whnf))
      have e : (d :: (dr ++ [Tm.mk k1 n1 s1 l1 t1])).map encT = (d :: dr).map encT ++ [.ag [iv k3, iv n3, sv s3, .sl b3 z3 x3, .sl c3 y3 ys3]] := by rw [← he3]; simp
      have el : (dr ++ [Tm.mk k1 n1 s1 l1 t1]).length + 1 = dr.length + 1 + 1 := by simp
      refine VAgain.mk _ rfl _ (gc_sh (.cons (sh_box rfl rfl) (.cons (sh_box rfl rfl) (.cons (sh_row hp8) .nil))) (.cons (sh_box rfl rfl) (.cons (sh_box rfl rfl) (.cons (sh_row hp8) .nil))) rfl rfl rfl rfl rfl) ⟨(d :: (dr ++ [Tm.mk k1 n1 s1 l1 t1]), Tm.mk k2 n2 s2 l2 t2, .ag [iv k2, iv n2, sv s2, .sl b5 z2 x2, .sl c2 y2 ys2]), ⟨hlb, hh1, ?_⟩, by simp only [sizT, sizTs]; omega, ?_⟩
      · exact ha1
      · dsimp only [spS]
        rw [e, el]
        rfl
    all_goals
      obtain ⟨e1, e2⟩ := hend (by omega)
      have e3 : argsF (.mk k0 nn0 s0 ls0 ts0) = (d :: dr).reverse := by rw [argsF, e2]
      refine vcall_shr rfl rfl (.cons (shr_box rfl rfl) (.cons (shr_box rfl rfl) (.cons (shr_row (encTs_pure _ 6)) .nil))) rfl rfl rfl rfl (Finds.mono hrv ?_)
      rintro _ _ ⟨rfl, rfl⟩
      refine vback_f (.cons (shr_row (encTs_pure _ 6)) .nil) rfl ?_
      repeat' ((conv => whnf) ; first | refine VIf.tt rfl ?_ | refine VIf.ff rfl ?_ | refine VIf.not ?_ | refine VIf.dtt (by assumption) ?_ | refine VIf.dff (by assumption) ?_ | refine VIf.dec (fun h => ?_) (fun h => ?_) | refine VIf.tt (by assumption) ?_ | refine VIf.ff (by assumption) ?_ | refine VIf.mk (fun h => ?_) (fun h => ?_) | refine VOk.mk rfl ?_ | refine VPur.mk rfl ?_ | refine VNat.mk _ rfl ?_ | refine VArith.fits (by unfold i64; omega) ?_ | refine vret_pf rfl ?_ | refine vret_take rfl rfl ?_ | refine vcall_pf hfr rfl rfl ?_ | refine VTch.mk _ rfl ?_)
      all_goals (try (conv => whnf))
      refine vret_pub rfl (mapS_cons rfl (mapS_cons (pubV_row rfl (by simp) (encTs_pure _ 4)) mapS_nil)) rfl ?_
      rw [e1, e3, he9, encTv_pos (by simp)]
      try rfl
end Go.Proofs.YtehhihdahalfeaaGreatDoor
namespace Go.Proofs.YtehhihdahalfeaaGreatDoor
open Go Go.Am Go.Gw
def alikeP : PV := .fn 183 [] []
def sameP : PV := .fn 144 [] []
set_option maxHeartbeats 1000000 in
set_option maxRecDepth 100000 in
theorem eqFuncL_can (ls ls' : List Lv) (hrec : ∀ l ∈ ls, ∀ v, LvP l v → ∀ m w, LvP m w → Pf C1 183 [v, w] [bv (eqLv l m)]) (b b' : Bool) (z z' : Nat) (xs xs' : List PV) (hz : z = 3 ∨ xs = []) (hz' : z' = 3 ∨ xs' = []) (hxs : LvsP ls xs) (hxs' : LvsP ls' xs') (hbd : ls.length ≤ 3518437208780) (hbd' : ls'.length ≤ 3518437208780) :
    Pf C1 182 [.sl b z xs, .sl b' z' xs', alikeP] [bv (decide (ls.length = ls'.length) && eqLvs ls ls')] := by
  have hlen := hxs.len
  have hlen' := hxs'.len
  refine run_intro Tryz.func182 rfl rfl rfl ?_
  repeat' ((conv => whnf) ; first | refine VIf.tt rfl ?_ | refine VIf.ff rfl ?_ | refine VIf.not ?_ | refine VIf.dtt (by assumption) ?_ | refine VIf.dff (by assumption) ?_ | refine VIf.dec (fun h => ?_) (fun h => ?_) | refine VIf.tt (by assumption) ?_ | refine VIf.ff (by assumption) ?_ | refine VIf.mk (fun h => ?_) (fun h => ?_) | refine VOk.mk rfl ?_ | refine VPur.mk rfl ?_ | refine VNat.mk _ rfl ?_ | refine VArith.fits (by unfold i64; omega) ?_ | refine vret_pf rfl ?_ | refine vret_take rfl rfl ?_ | refine VTch.mk _ rfl ?_)
  all_goals (try (conv => whnf))
  · have hl2 : ls.length = ls'.length := by omega
    refine loop_over (G := Nat) (fun i => [(17, iv i)]) (fun _ => _) (fun i => i ≤ ls.length ∧ eqLvs (ls.drop i) (ls'.drop i) = eqLvs ls ls') (fun i => ls.length - i) 0 ⟨by omega, rfl⟩ rfl rfl ?_
    rintro i ⟨hi, hall⟩
    repeat' ((conv => whnf) ; first | refine VIf.tt rfl ?_ | refine VIf.ff rfl ?_ | refine VIf.not ?_ | refine VIf.dtt (by assumption) ?_ | refine VIf.dff (by assumption) ?_ | refine VIf.dec (fun h => ?_) (fun h => ?_) | refine VIf.tt (by assumption) ?_ | refine VIf.ff (by assumption) ?_ | refine VIf.mk (fun h => ?_) (fun h => ?_) | refine VOk.mk rfl ?_ | refine VPur.mk rfl ?_ | refine VNat.mk _ rfl ?_ | refine VArith.fits (by unfold i64; omega) ?_ | refine vret_pf rfl ?_ | refine vret_take rfl rfl ?_ | refine VTch.mk _ rfl ?_)
    all_goals (try (conv => whnf))
    · have hi' : i < ls.length := by omega
      obtain ⟨lc, hlc⟩ : ∃ lc, ls[i]? = some lc := ⟨_, List.getElem?_eq_getElem hi'⟩
      obtain ⟨mc, hmc⟩ : ∃ mc, ls'[i]? = some mc := ⟨_, List.getElem?_eq_getElem (by omega)⟩
      obtain ⟨v, hv, hl⟩ := hxs.at hlc
      obtain ⟨w, hw, hl'⟩ := hxs'.at hmc
      have hr := hrec _ (List.mem_of_getElem? hlc) _ hl _ _ hl'
      obtain ⟨k1, n1, l1, b1, z1, x1, rfl, rfl, hz1, hxs1, hlen1, hbd1⟩ := hl.open
      obtain ⟨k2, n2, l2, b2, z2, x2, rfl, rfl, hz2, hxs2, hlen2, hbd2⟩ := hl'.open
      rw [drop_at hlc, drop_at hmc] at hall
      simp only [eqLvs] at hall
      repeat' ((conv => whnf) ; first | refine VIf.tt rfl ?_ | refine VIf.ff rfl ?_ | refine VIf.not ?_ | refine VIf.dtt (by assumption) ?_ | refine VIf.dff (by assumption) ?_ | refine VIf.dec (fun h => ?_) (fun h => ?_) | refine VIf.tt (by assumption) ?_ | refine VIf.ff (by assumption) ?_ | refine VIf.mk (fun h => ?_) (fun h => ?_) | refine VOk.mk rfl ?_ | refine VPur.mk rfl ?_ | refine VNat.mk _ rfl ?_ | refine VArith.fits (by unfold i64; omega) ?_ | refine vret_pf rfl ?_ | refine vret_take rfl rfl ?_ | refine VIdx.mk _ hv ?_ | refine VOk.mk (szOk_of rfl hz) ?_ | refine VIdx.mk _ hw ?_ | refine VOk.mk (szOk_of rfl hz') ?_ | refine vcall_pf hr rfl rfl ?_ | refine VTch.mk _ rfl ?_)
      all_goals (try (conv => whnf))
      · refine VAgain.mk _ rfl _ (gc_take rfl rfl rfl) ⟨i + 1, ⟨hi', ?_⟩, by omega, rfl⟩
        rw [← hall]
        simp_all
      · rw [← hall]
        simp_all
    · have : i = ls.length := by omega
      subst this
      rw [List.drop_length] at hall
      rw [← hall, decide_eq_true hl2]
      rfl
  · rw [decide_eq_false (by omega)]
    rfl
set_option maxHeartbeats 1000000 in
set_option maxRecDepth 100000 in
theorem alike_can (l : Lv) : ∀ v, LvP l v → ∀ m w, LvP m w → Pf C1 183 [v, w] [bv (eqLv l m)] := by
  induction l using Lv.ind with
  | _ k n ls ih =>
  intro v h m w hm
  obtain ⟨_, _, _, b, z, xs, ⟨rfl, rfl, rfl⟩, rfl, hz, hxs, hlen, hbd⟩ := h.open
  obtain ⟨k', n', ls', b', z', xs', rfl, rfl, hz', hxs', hlen', hbd'⟩ := hm.open
  have he := eqFuncL_can ls ls' ih b b' z z' xs xs' hz hz' hxs hxs' (by omega) (by omega)
  refine run_intro Tryz.func183 rfl rfl rfl ?_
  repeat' ((conv => whnf) ; first | refine VIf.tt rfl ?_ | refine VIf.ff rfl ?_ | refine VIf.not ?_ | refine VIf.dtt (by assumption) ?_ | refine VIf.dff (by assumption) ?_ | refine VIf.dec (fun h => ?_) (fun h => ?_) | refine VIf.tt (by assumption) ?_ | refine VIf.ff (by assumption) ?_ | refine VIf.mk (fun h => ?_) (fun h => ?_) | refine VOk.mk rfl ?_ | refine VPur.mk rfl ?_ | refine VNat.mk _ rfl ?_ | refine VArith.fits (by unfold i64; omega) ?_ | refine vret_pf rfl ?_ | refine vret_take rfl rfl ?_ | refine vcall_pf he rfl rfl ?_ | refine VTch.mk _ rfl ?_)
  all_goals (try (conv => whnf))
  all_goals simp_all [eqLv, retV]
set_option maxHeartbeats 1000000 in
set_option maxRecDepth 100000 in
theorem eqFuncT_can (ts ts' : List Tm) (hrec : ∀ l ∈ ts, ∀ v, TmP l v → ∀ m w, TmP m w → Pf C1 144 [v, w] [bv (eqTm l m)]) (b b' : Bool) (z z' : Nat) (xs xs' : List PV) (hz : z = 5 ∨ xs = []) (hz' : z' = 5 ∨ xs' = []) (hxs : TmsP ts xs) (hxs' : TmsP ts' xs') (hbd : ts.length ≤ 1759218604441) (hbd' : ts'.length ≤ 1759218604441) :
    Pf C1 184 [.sl b z xs, .sl b' z' xs', sameP] [bv (decide (ts.length = ts'.length) && eqTms ts ts')] := by
  have hlen := hxs.len
  have hlen' := hxs'.len
  refine run_intro Tryz.func184 rfl rfl rfl ?_
  repeat' ((conv => whnf) ; first | refine VIf.tt rfl ?_ | refine VIf.ff rfl ?_ | refine VIf.not ?_ | refine VIf.dtt (by assumption) ?_ | refine VIf.dff (by assumption) ?_ | refine VIf.dec (fun h => ?_) (fun h => ?_) | refine VIf.tt (by assumption) ?_ | refine VIf.ff (by assumption) ?_ | refine VIf.mk (fun h => ?_) (fun h => ?_) | refine VOk.mk rfl ?_ | refine VPur.mk rfl ?_ | refine VNat.mk _ rfl ?_ | refine VArith.fits (by unfold i64; omega) ?_ | refine vret_pf rfl ?_ | refine vret_take rfl rfl ?_ | refine VTch.mk _ rfl ?_)
  all_goals (try (conv => whnf))
  · have hl2 : ts.length = ts'.length := by omega
    refine loop_over (G := Nat) (fun i => [(17, iv i)]) (fun _ => _) (fun i => i ≤ ts.length ∧ eqTms (ts.drop i) (ts'.drop i) = eqTms ts ts') (fun i => ts.length - i) 0 ⟨by omega, rfl⟩ rfl rfl ?_
    rintro i ⟨hi, hall⟩
    repeat' ((conv => whnf) ; first | refine VIf.tt rfl ?_ | refine VIf.ff rfl ?_ | refine VIf.not ?_ | refine VIf.dtt (by assumption) ?_ | refine VIf.dff (by assumption) ?_ | refine VIf.dec (fun h => ?_) (fun h => ?_) | refine VIf.tt (by assumption) ?_ | refine VIf.ff (by assumption) ?_ | refine VIf.mk (fun h => ?_) (fun h => ?_) | refine VOk.mk rfl ?_ | refine VPur.mk rfl ?_ | refine VNat.mk _ rfl ?_ | refine VArith.fits (by unfold i64; omega) ?_ | refine vret_pf rfl ?_ | refine vret_take rfl rfl ?_ | refine VTch.mk _ rfl ?_)
    all_goals (try (conv => whnf))
    · have hi' : i < ts.length := by omega
      obtain ⟨lc, hlc⟩ : ∃ lc, ts[i]? = some lc := ⟨_, List.getElem?_eq_getElem hi'⟩
      obtain ⟨mc, hmc⟩ : ∃ mc, ts'[i]? = some mc := ⟨_, List.getElem?_eq_getElem (by omega)⟩
      obtain ⟨v, hv, hl⟩ := hxs.at hlc
      obtain ⟨w, hw, hl'⟩ := hxs'.at hmc
      have hr := hrec _ (List.mem_of_getElem? hlc) _ hl _ _ hl'
      obtain ⟨k1, n1, s1, l1, t1, b1, z1, x1, c1, y1, ys1, rfl, rfl, -⟩ := hl.open
      obtain ⟨k2, n2, s2, l2, t2, b2, z2, x2, c2, y2, ys2, rfl, rfl, -⟩ := hl'.open
      rw [drop_at hlc, drop_at hmc] at hall
      simp only [eqTms] at hall
      repeat' ((conv => whnf) ; first | refine VIf.tt rfl ?_ | refine VIf.ff rfl ?_ | refine VIf.not ?_ | refine VIf.dtt (by assumption) ?_ | refine VIf.dff (by assumption) ?_ | refine VIf.dec (fun h => ?_) (fun h => ?_) | refine VIf.tt (by assumption) ?_ | refine VIf.ff (by assumption) ?_ | refine VIf.mk (fun h => ?_) (fun h => ?_) | refine VOk.mk rfl ?_ | refine VPur.mk rfl ?_ | refine VNat.mk _ rfl ?_ | refine VArith.fits (by unfold i64; omega) ?_ | refine vret_pf rfl ?_ | refine vret_take rfl rfl ?_ | refine VIdx.mk _ hv ?_ | refine VOk.mk (szOk_of rfl hz) ?_ | refine VIdx.mk _ hw ?_ | refine VOk.mk (szOk_of rfl hz') ?_ | refine vcall_pf hr rfl rfl ?_ | refine VTch.mk _ rfl ?_)
      all_goals (try (conv => whnf))
      · refine VAgain.mk _ rfl _ (gc_take rfl rfl rfl) ⟨i + 1, ⟨hi', ?_⟩, by omega, rfl⟩
        rw [← hall]
        simp_all
      · rw [← hall]
        simp_all
    · have : i = ts.length := by omega
      subst this
      rw [List.drop_length] at hall
      rw [← hall, decide_eq_true hl2]
      rfl
  · rw [decide_eq_false (by omega)]
    rfl
set_option maxHeartbeats 1000000 in
set_option maxRecDepth 100000 in
theorem Same_can (t : Tm) : ∀ v, TmP t v → ∀ m w, TmP m w → Pf C1 144 [v, w] [bv (eqTm t m)] := by
  induction t using Tm.ind with
  | _ k n s ls ts ih =>
  intro v h m w hm
  obtain ⟨_, _, _, _, _, b, z, xs, c, y, ys, ⟨rfl, rfl, rfl, rfl, rfl⟩, rfl, hz, hxs, hlen, hbd, hy, hys, hlen2, hbd2, hsl⟩ := h.open
  obtain ⟨k', n', s', ls', ts', b', z', xs', c', y', ys', rfl, rfl, hz', hxs', hlen', hbd', hy', hys', hlen2', hbd2', hsl'⟩ := hm.open
  have he := eqFuncL_can ls ls' (fun l _ => alike_can l) b b' z z' xs xs' hz hz' hxs hxs' (by omega) (by omega)
  have hf := eqFuncT_can ts ts' ih c c' y y' ys ys' hy hy' hys hys' (by omega) (by omega)
  refine run_intro Tryz.func144 rfl rfl rfl ?_
  repeat' ((conv => whnf) ; first | refine VIf.tt rfl ?_ | refine VIf.ff rfl ?_ | refine VIf.not ?_ | refine VIf.dtt (by assumption) ?_ | refine VIf.dff (by assumption) ?_ | refine VIf.dec (fun h => ?_) (fun h => ?_) | refine VIf.tt (by assumption) ?_ | refine VIf.ff (by assumption) ?_ | refine VIf.mk (fun h => ?_) (fun h => ?_) | refine VOk.mk rfl ?_ | refine VPur.mk rfl ?_ | refine VNat.mk _ rfl ?_ | refine VArith.fits (by unfold i64; omega) ?_ | refine vret_pf rfl ?_ | refine vret_take rfl rfl ?_ | refine vres_str ?_ | refine vcall_pf he rfl rfl ?_ | refine vcall_pf hf rfl rfl ?_ | refine VTch.mk _ rfl ?_)
  all_goals (try (conv => whnf))
  all_goals simp_all [eqTm, retV]
end Go.Proofs.YtehhihdahalfeaaGreatDoor
namespace Go.Proofs.YtehhihdahalfeaaGreatDoor
open Go Go.Am Go.Gw
/-- a maker, as it lies -/
inductive MkP (nm : List UInt8) (p fx idx : Int) (self : Tm) : PV → Prop where
  | mk (k : Int) (a1 a2 a3 a4 a5 v1 v2 v3 v4 v5 cs : PV) (j1 j2 : Int) (js : List UInt8) (j3 : Bool) (j4 : Nat) (j5 : List PV) (j6 : Bool) (j7 : Nat) (j8 : List PV) (h : TmP self (.ag [iv j1, iv j2, sv js, .sl j3 j4 j5, .sl j6 j7 j8])) :
    MkP nm p fx idx self (.cp [iv k, iv p, sv nm, a1, a2, a3, a4, a5, v1, v2, v3, v4, v5, iv fx, cs, iv j1, iv j2, sv js, .sl j3 j4 j5, .sl j6 j7 j8, iv idx])
def stF (nm : List UInt8) (t : Tm) : Bool := decide (nm ∈ ConstsF t)
def standsP (M : PV) : PV := .fn 108 [M] []
section
variable {nm : List UInt8} {p fx idx : Int} {self : Tm} {M : PV}
set_option maxRecDepth 100000 in
theorem mstands_can (hM : MkP nm p fx idx self M) (t : Tm) (v : PV) (h : TmP t v) : Pf C1 108 [M, v] [bv (stF nm t)] := by
  have ho := Occurs_can t v h nm
  obtain ⟨k, a1, a2, a3, a4, a5, v1, v2, v3, v4, v5, cs, j1, j2, js, j3, j4, j5, j6, j7, j8, -⟩ := hM
  obtain ⟨k0, nn0, s0, ls0, ts0, b0, z0, xs0, c0, y0, ys0, rfl, rfl, -⟩ := h.open
  refine run_intro Tryz.func108 rfl rfl rfl ?_
  repeat' ((conv => whnf) ; first | refine VIf.tt rfl ?_ | refine VIf.ff rfl ?_ | refine VIf.not ?_ | refine VIf.dtt (by assumption) ?_ | refine VIf.dff (by assumption) ?_ | refine VIf.dec (fun h => ?_) (fun h => ?_) | refine VIf.tt (by assumption) ?_ | refine VIf.ff (by assumption) ?_ | refine VIf.mk (fun h => ?_) (fun h => ?_) | refine VOk.mk rfl ?_ | refine VPur.mk rfl ?_ | refine VNat.mk _ rfl ?_ | refine VArith.fits (by unfold i64; omega) ?_ | refine vret_pf rfl ?_ | refine vret_take rfl rfl ?_ | refine vcall_pf ho rfl rfl ?_ | refine finds_pf ho (fun _ => ?_) | refine VTch.mk _ rfl ?_)
  all_goals (try (conv => whnf))
  all_goals rfl
set_option maxRecDepth 100000 in
theorem own_can (t : Tm) (v : PV) (h : TmP t v) (i deep : Int) (hi : 0 ≤ i ∧ i ≤ 1000000) (hd : 0 ≤ deep ∧ deep ≤ 1000000) : Pf C1 145 [v, iv i, iv deep] [bv (decide (t.kind = 1) && decide (t.num = deep - 1 - i))] := by
  obtain ⟨k0, nn0, s0, ls0, ts0, b0, z0, xs0, c0, y0, ys0, rfl, rfl, -⟩ := h.open
  refine run_intro Tryz.func145 rfl rfl rfl ?_
  repeat' ((conv => whnf) ; first | refine VIf.tt rfl ?_ | refine VIf.ff rfl ?_ | refine VIf.not ?_ | refine VIf.dtt (by assumption) ?_ | refine VIf.dff (by assumption) ?_ | refine VIf.dec (fun h => ?_) (fun h => ?_) | refine VIf.tt (by assumption) ?_ | refine VIf.ff (by assumption) ?_ | refine VIf.mk (fun h => ?_) (fun h => ?_) | refine VOk.mk rfl ?_ | refine VPur.mk rfl ?_ | refine VNat.mk _ rfl ?_ | refine VArith.fits (by unfold i64; omega) ?_ | refine vret_pf rfl ?_ | refine vret_take rfl rfl ?_ | refine VTch.mk _ rfl ?_)
  all_goals (try (conv => whnf))
  all_goals first
    | (simp_all [Tm.kind, Tm.num]; done)
    | (simp_all [Tm.kind, Tm.num]; exact decide_eq_decide.2 Iff.rfl)
set_option maxRecDepth 100000 in
theorem idxSt_can (hM : MkP nm p fx idx self M) (ts : List Tm) (b : Bool) (z : Nat) (xs : List PV) (hz : z = 5 ∨ xs = []) (hxs : TmsP ts xs) (hbd : ts.length ≤ 1759218604441) : Pf C1 127 [.sl b z xs, standsP M] [iv (idxT (stF nm) ts 0)] := by
  have hlen := hxs.len
  have hst := fun t v h => mstands_can hM t v h
  obtain ⟨k, a1, a2, a3, a4, a5, v1, v2, v3, v4, v5, cs, j1, j2, js, j3, j4, j5, j6, j7, j8, -⟩ := hM
  refine run_intro Tryz.func127 rfl rfl rfl ?_
  repeat' ((conv => whnf) ; first | refine VIf.tt rfl ?_ | refine VIf.ff rfl ?_ | refine VIf.not ?_ | refine VIf.dtt (by assumption) ?_ | refine VIf.dff (by assumption) ?_ | refine VIf.dec (fun h => ?_) (fun h => ?_) | refine VIf.tt (by assumption) ?_ | refine VIf.ff (by assumption) ?_ | refine VIf.mk (fun h => ?_) (fun h => ?_) | refine VOk.mk rfl ?_ | refine VPur.mk rfl ?_ | refine VNat.mk _ rfl ?_ | refine VArith.fits (by unfold i64; omega) ?_ | refine vret_pf rfl ?_ | refine vret_take rfl rfl ?_ | refine VTch.mk _ rfl ?_)
  all_goals (try (conv => whnf))
  refine loop_over (G := Nat) (fun i => [(8, iv i)]) (fun _ => _) (fun i => i ≤ ts.length ∧ idxT (stF nm) (ts.drop i) i = idxT (stF nm) ts 0) (fun i => ts.length - i) 0 ⟨by omega, rfl⟩ rfl rfl ?_
  rintro i ⟨hi, hall⟩
  dsimp only at hi hall ⊢
  repeat' ((conv => whnf) ; first | refine VIf.tt rfl ?_ | refine VIf.ff rfl ?_ | refine VIf.not ?_ | refine VIf.dtt (by assumption) ?_ | refine VIf.dff (by assumption) ?_ | refine VIf.dec (fun h => ?_) (fun h => ?_) | refine VIf.tt (by assumption) ?_ | refine VIf.ff (by assumption) ?_ | refine VIf.mk (fun h => ?_) (fun h => ?_) | refine VOk.mk rfl ?_ | refine VPur.mk rfl ?_ | refine VNat.mk _ rfl ?_ | refine VArith.fits (by unfold i64; omega) ?_ | refine vret_pf rfl ?_ | refine vret_take rfl rfl ?_ | refine VTch.mk _ rfl ?_)
  all_goals (try (conv => whnf))
  · have hi' : i < ts.length := by omega
    obtain ⟨tc, htc⟩ : ∃ tc, ts[i]? = some tc := ⟨_, List.getElem?_eq_getElem hi'⟩
    obtain ⟨v, hv, hl⟩ := hxs.at htc
    have hw := hst tc v hl
    obtain ⟨k1, n1, s1', l1, t1, b1, z1, x1, c1, y1, ys1, rfl, rfl, hz1, hxs1, hlen1, hbd1, hy1, hys1, hlen21, hbd21, hsl1⟩ := hl.open
    rw [drop_at htc, idxT] at hall
    repeat' ((conv => whnf) ; first | refine VIf.tt rfl ?_ | refine VIf.ff rfl ?_ | refine VIf.not ?_ | refine VIf.dtt (by assumption) ?_ | refine VIf.dff (by assumption) ?_ | refine VIf.dec (fun h => ?_) (fun h => ?_) | refine VIf.tt (by assumption) ?_ | refine VIf.ff (by assumption) ?_ | refine VIf.mk (fun h => ?_) (fun h => ?_) | refine VOk.mk rfl ?_ | refine VPur.mk rfl ?_ | refine VNat.mk _ rfl ?_ | refine VArith.fits (by unfold i64; omega) ?_ | refine vret_pf rfl ?_ | refine vret_take rfl rfl ?_ | refine VIdx.mk _ hv ?_ | refine VOk.mk (szOk_of rfl hz) ?_ | refine vcall_pf hw rfl rfl ?_ | refine VTch.mk _ rfl ?_)
    all_goals (try (conv => whnf))
    · rw [if_pos (by simpa [stF] using h)] at hall
      rw [← hall]
    · rw [if_neg (by simpa [stF] using h)] at hall
      exact VAgain.mk _ rfl _ (gc_take rfl rfl rfl) ⟨i + 1, ⟨hi', hall⟩, by omega, rfl⟩
  · rw [List.drop_of_length_le (by omega), idxT] at hall
    rw [← hall]
set_option maxRecDepth 100000 in
theorem anySt_can (hM : MkP nm p fx idx self M) (ts : List Tm) (b : Bool) (z : Nat) (xs : List PV) (hz : z = 5 ∨ xs = []) (hxs : TmsP ts xs) (hbd : ts.length ≤ 1759218604441) : Pf C1 80 [.sl b z xs, standsP M] [bv (ts.any (stF nm))] := by
  have hi := idxSt_can hM ts b z xs hz hxs hbd
  have e := idxT_any (stF nm) ts 0
  obtain ⟨k, a1, a2, a3, a4, a5, v1, v2, v3, v4, v5, cs, j1, j2, js, j3, j4, j5, j6, j7, j8, -⟩ := hM
  refine run_intro Tryz.func80 rfl rfl rfl ?_
  repeat' ((conv => whnf) ; first | refine VIf.tt rfl ?_ | refine VIf.ff rfl ?_ | refine VIf.not ?_ | refine VIf.dtt (by assumption) ?_ | refine VIf.dff (by assumption) ?_ | refine VIf.dec (fun h => ?_) (fun h => ?_) | refine VIf.tt (by assumption) ?_ | refine VIf.ff (by assumption) ?_ | refine VIf.mk (fun h => ?_) (fun h => ?_) | refine VOk.mk rfl ?_ | refine VPur.mk rfl ?_ | refine VNat.mk _ rfl ?_ | refine VArith.fits (by unfold i64; omega) ?_ | refine vret_pf rfl ?_ | refine vret_take rfl rfl ?_ | refine vcall_pf hi rfl rfl ?_ | refine VTch.mk _ rfl ?_)
  all_goals (try (conv => whnf))
  rw [← e]
/-- are these the parameters' variables? -/
def ownsF (deep : Int) : List Tm → Int → Bool
  | [], _ => true
  | t :: r, i => (decide (t.kind = 1) && decide (t.num = deep - 1 - i)) && ownsF deep r (i + 1)
/-- what a term ends with -/
def endF (nm : List UInt8) (self : Tm) (fx idx deep : Int) (t : Tm) : List Tm × Bool :=
  if (eqTm (spF t).1 self && (decide (((argsF t).length : Int) = fx + idx) && ownsF deep ((argsF t).take fx.toNat) 0)) = true then ((argsF t).drop fx.toNat, !((argsF t).drop fx.toNat).any (stF nm)) else ([], false)
theorem endF_bad {nm : List UInt8} {self : Tm} {fx idx deep : Int} {t : Tm} (h : (eqTm (spF t).1 self && (decide (((argsF t).length : Int) = fx + idx) && ownsF deep ((argsF t).take fx.toNat) 0)) = false) : endF nm self fx idx deep t = ([], false) := by
  unfold endF
  rw [if_neg (by rw [h]; exact Bool.false_ne_true)]
theorem encTv_opn (l : List Tm) : ∃ b z, encTv l = .sl b z (l.map encT) ∧ (z = 5 ∨ l.map encT = []) := by
  cases l with
  | nil => exact ⟨_, _, rfl, .inr rfl⟩
  | cons d r => exact ⟨_, _, encTv_pos (by simp), .inl rfl⟩
set_option maxHeartbeats 2000000 in
set_option maxRecDepth 100000 in
theorem end_can (hM : MkP nm p fx idx self M) (hfx : 0 ≤ fx ∧ fx ≤ 16) (hidx : 0 ≤ idx ∧ idx ≤ 16) (deep : Int) (hd : 0 ≤ deep ∧ deep ≤ 1000000) (t : Tm) (v : PV) (h : TmP t v) (hw : ∀ a ∈ argsF t, TmW a) (hh : TmW (spF t).1) (hl : (spF t).2.length ≤ 2000) :
    ∃ b z xs, (z = 5 ∨ xs = []) ∧ TmsP (endF nm self fx idx deep t).1 xs ∧ Pf C1 101 [M, v, iv deep] [.sl b z xs, bv (endF nm self fx idx deep t).2] := by
  suffices key : Finds C1 101 [M, v, iv deep] [] fun r _ => ∃ b z xs, (z = 5 ∨ xs = []) ∧ TmsP (endF nm self fx idx deep t).1 xs ∧ r = .ret [.sl b z xs, bv (endF nm self fx idx deep t).2] by
    obtain ⟨r, st', ⟨b, z, xs, h1, h2, rfl⟩, N, hN⟩ := key
    exact ⟨b, z, xs, h1, h2, _, st', rfl, N, hN⟩
  have hs := Spine_can t v h hl
  have hlen : (argsF t).length = (spF t).2.length := by simp [argsF]
  have hany := fun l b z xs h1 h2 h3 => anySt_can hM l b z xs h1 h2 h3
  have hsame := fun w hw => Same_can (spF t).1 (encT (spF t).1) hh self w hw
  obtain ⟨k, a1, a2, a3, a4, a5, v1, v2, v3, v4, v5, cs, j1, j2, js, j3, j4, j5, j6, j7, j8, hself⟩ := hM
  have hsm := hsame _ hself
  obtain ⟨k9, n9, s9, b9, z9, x9, c9, y9, ys9, he9⟩ := encT_open (spF t).1
  obtain ⟨bq, zq, hq, hzq⟩ := encTv_opn (argsF t)
  rw [he9, hq] at hs
  rw [he9] at hsm
  have hql : ((argsF t).map encT).length = (argsF t).length := by simp
  obtain ⟨f, rfl⟩ := Int.eq_ofNat_of_zero_le hfx.1
  have hbad := fun e => endF_bad (nm := nm) (self := self) (fx := f) (idx := idx) (deep := deep) (t := t) e
  have hgood : (eqTm (spF t).1 self && (decide (((argsF t).length : Int) = f + idx) && ownsF deep ((argsF t).take f) 0)) = true → endF nm self f idx deep t = ((argsF t).drop f, !((argsF t).drop f).any (stF nm)) := fun e => by
    unfold endF
    rw [Int.toNat_natCast, if_pos e]
  rw [Int.toNat_natCast] at hbad
  generalize hA : argsF t = A at hs hlen hw hq hzq hql hbad hgood
  generalize hH : (spF t).1 = H at hs hh hsm hbad hgood
  obtain ⟨k0, nn0, s0, ls0, ts0, b0, z0, xs0, c0, y0, ys0, rfl, rfl, -⟩ := h.open
  refine run_intro Tryz.func101 rfl rfl rfl ?_
  repeat' ((conv => whnf) ; first | refine VIf.tt rfl ?_ | refine VIf.ff rfl ?_ | refine VIf.not ?_ | refine VIf.dtt (by assumption) ?_ | refine VIf.dff (by assumption) ?_ | refine VIf.dec (fun h => ?_) (fun h => ?_) | refine VIf.tt (by assumption) ?_ | refine VIf.ff (by assumption) ?_ | refine VIf.mk (fun h => ?_) (fun h => ?_) | refine VOk.mk rfl ?_ | refine VPur.mk rfl ?_ | refine VNat.mk _ rfl ?_ | refine VArith.fits (by unfold i64; omega) ?_ | refine vret_pf rfl ?_ | refine vret_take rfl rfl ?_ | refine vcall_pf hs rfl rfl ?_ | refine vcall_pf hsm rfl rfl ?_ | refine finds_pf hsm (fun _ => ?_) | refine VOk.mk (szOk_of rfl hzq) ?_ | refine VNat.mk f rfl ?_ | refine VOk.mk (show (Nat.ble f (A.map encT).length && Nat.ble 0 f) = true by simp; omega) ?_ | refine VTch.mk _ rfl ?_)
  all_goals (try (conv => whnf))
  · have hf : f ≤ A.length := by simp at *; omega
    have hlT : (List.drop 0 (List.take f (A.map encT))).length = f := by simp; omega
    have hpre : ownsF deep (A.take f) 0 = true → endF nm self f idx deep (.mk k0 nn0 s0 ls0 ts0) = (A.drop f, !(A.drop f).any (stF nm)) := fun e => hgood (by simp_all)
    refine loop_over (G := Nat) (fun i => [(48, iv i)]) (fun _ => _) (fun i => i ≤ f ∧ ownsF deep ((A.take f).drop i) i = ownsF deep (A.take f) 0) (fun i => f - i) 0 ⟨by omega, rfl⟩ rfl rfl ?_
    rintro i ⟨hi, hall⟩
    dsimp only at hi hall ⊢
    repeat' ((conv => whnf) ; first | refine VIf.tt rfl ?_ | refine VIf.ff rfl ?_ | refine VIf.not ?_ | refine VIf.dtt (by assumption) ?_ | refine VIf.dff (by assumption) ?_ | refine VIf.dec (fun h => ?_) (fun h => ?_) | refine VIf.tt (by assumption) ?_ | refine VIf.ff (by assumption) ?_ | refine VIf.mk (fun h => ?_) (fun h => ?_) | refine VOk.mk rfl ?_ | refine VPur.mk rfl ?_ | refine VNat.mk _ rfl ?_ | refine VArith.fits (by unfold i64; omega) ?_ | refine vret_pf rfl ?_ | refine vret_take rfl rfl ?_ | refine VTch.mk _ rfl ?_)
    all_goals (try (conv => whnf))
    · have hi' : i < f := by omega
      obtain ⟨tc, htc⟩ : ∃ tc, A[i]? = some tc := ⟨_, List.getElem?_eq_getElem (by omega)⟩
      have htc1 : (A.take f)[i]? = some tc := by rw [List.getElem?_take, if_pos hi', htc]
      have hv : (List.drop 0 (List.take f (A.map encT)))[i]? = some (encT tc) := by rw [List.drop_zero, ← List.map_take, List.getElem?_map, htc1]; rfl
      have ho := own_can tc (encT tc) (hw _ (List.mem_of_getElem? htc)) i deep ⟨by omega, by omega⟩ hd
      obtain ⟨k3, n3, s3, b3, z3, x3, c3, y3, ys3, he3⟩ := encT_open tc
      rw [he3] at hv ho
      rw [drop_at htc1, ownsF] at hall
      have hz5 : zq = 5 ∨ List.drop 0 (List.take f (A.map encT)) = [] := by
        rcases hzq with e | e
        · exact .inl e
        · rw [e]; exact .inr (by simp)
      repeat' ((conv => whnf) ; first | refine VIf.tt rfl ?_ | refine VIf.ff rfl ?_ | refine VIf.not ?_ | refine VIf.dtt (by assumption) ?_ | refine VIf.dff (by assumption) ?_ | refine VIf.dec (fun h => ?_) (fun h => ?_) | refine VIf.tt (by assumption) ?_ | refine VIf.ff (by assumption) ?_ | refine VIf.mk (fun h => ?_) (fun h => ?_) | refine VOk.mk rfl ?_ | refine VPur.mk rfl ?_ | refine VNat.mk _ rfl ?_ | refine VArith.fits (by unfold i64; omega) ?_ | refine vret_pf rfl ?_ | refine vret_take rfl rfl ?_ | refine VIdx.mk _ hv ?_ | refine VOk.mk (szOk_of rfl hz5) ?_ | refine vcall_pf ho rfl rfl ?_ | refine VTch.mk _ rfl ?_)
      all_goals (try (conv => whnf))
      · refine VAgain.mk _ rfl _ (gc_take rfl rfl rfl) ⟨i + 1, ⟨hi', ?_⟩, by omega, rfl⟩
        rw [← hall]
        simp_all
      · have e0 : ownsF deep (A.take f) 0 = false := by
          rw [← hall]
          simp_all
        rw [hbad (by rw [e0]; simp)]
        exact ⟨_, _, _, .inr rfl, by simp only [TmsP], rfl⟩
    · have e0 : ownsF deep (A.take f) 0 = true := by
        rw [← hall, List.drop_of_length_le (by simp; omega)]
        rfl
      have hpost := hpre e0
      have hxsd : TmsP (A.drop f) (((A.map encT).take (A.map encT).length).drop f) := by
        rw [List.take_length, ← List.map_drop]
        exact tmsP_enc fun a ha => hw a (List.mem_of_mem_drop ha)
      have hzd : zq = 5 ∨ ((A.map encT).take (A.map encT).length).drop f = [] := by
        rcases hzq with e | e
        · exact .inl e
        · rw [e]; exact .inr (by simp)
      have hc := hany (A.drop f) (bq && Nat.beq (A.map encT).length (A.map encT).length) zq _ hzd hxsd (by simp; omega)
      repeat' ((conv => whnf) ; first | refine VIf.tt rfl ?_ | refine VIf.ff rfl ?_ | refine VIf.not ?_ | refine VIf.dtt (by assumption) ?_ | refine VIf.dff (by assumption) ?_ | refine VIf.dec (fun h => ?_) (fun h => ?_) | refine VIf.tt (by assumption) ?_ | refine VIf.ff (by assumption) ?_ | refine VIf.mk (fun h => ?_) (fun h => ?_) | refine VOk.mk rfl ?_ | refine VPur.mk rfl ?_ | refine VNat.mk _ rfl ?_ | refine VArith.fits (by unfold i64; omega) ?_ | refine vret_pf rfl ?_ | refine vret_take rfl rfl ?_ | refine VOk.mk (szOk_of rfl hzq) ?_ | refine VNat.mk f rfl ?_ | refine VOk.mk (show (Nat.ble (A.map encT).length (A.map encT).length && Nat.ble f (A.map encT).length) = true by simp; omega) ?_ | refine vcall_pf hc rfl rfl ?_ | refine VTch.mk _ rfl ?_)
      all_goals (try (conv => whnf))
      rw [hpost]
      exact ⟨_, _, _, hzd, hxsd, rfl⟩
  all_goals
    rw [hbad (by simp_all)]
    exact ⟨_, _, _, .inr rfl, by simp only [TmsP], rfl⟩
end
end Go.Proofs.YtehhihdahalfeaaGreatDoor
namespace Go.Proofs.YtehhihdahalfeaaGreatDoor
open Go Go.Am Go.Gw
theorem spF_w (t : Tm) : TmW t → (∀ a ∈ (spF t).2, TmW a) ∧ TmW (spF t).1 := by
  induction t using Tm.ind with
  | _ k n s ls ts ih =>
  intro h
  unfold spF
  split
  · rename_i f a
    split
    · have h1 := (TmW.args h).1 f (by simp)
      obtain ⟨h2, h3⟩ := ih f (by simp) h1
      refine ⟨fun b hb => ?_, h3⟩
      rcases List.mem_cons.1 hb with rfl | hb
      · exact (TmW.args h).1 _ (by simp)
      · exact h2 b hb
    · exact ⟨fun b hb => by simp at hb, h⟩
  · exact ⟨fun b hb => by simp at hb, h⟩
theorem spF_dep (t : Tm) : (spF t).2.length ≤ depT t := by
  induction t using Tm.ind with
  | _ k n s ls ts ih =>
  unfold spF
  split
  · rename_i f a
    split
    · have := ih f (by simp)
      simp only [List.length_cons, depT, depTs]
      omega
    · simp
  · simp
/-- how many arms a field has that is recursive: behind so many binders -/
def armsL (nm : List UInt8) (self : Tm) (fx idx deep : Int) : Tm → Int → Int × Bool
  | .mk k n s ls ts, c =>
    let fin := if (endF nm self fx idx (deep + c) (.mk k n s ls ts)).2 = true then (c, true) else (0, false)
    match ts with
    | [a, b] => if k = 6 then (if stF nm a = true then (0, false) else armsL nm self fx idx deep b (c + 1)) else fin
    | _ => fin
def armsF (nm : List UInt8) (self : Tm) (fx idx deep : Int) (t : Tm) : Int × Bool := if stF nm t = true then armsL nm self fx idx deep t 0 else (-1, true)
theorem armsL_pi {nm : List UInt8} {self : Tm} {fx idx deep n c : Int} {s : List UInt8} {ls : List Lv} {a b : Tm} : armsL nm self fx idx deep (.mk 6 n s ls [a, b]) c = if stF nm a = true then (0, false) else armsL nm self fx idx deep b (c + 1) := by
  rw [armsL]
  simp
theorem armsL_end {nm : List UInt8} {self : Tm} {fx idx deep k n c : Int} {s : List UInt8} {ls : List Lv} {ts : List Tm} (h : ¬ k = 6) : armsL nm self fx idx deep (.mk k n s ls ts) c = if (endF nm self fx idx (deep + c) (.mk k n s ls ts)).2 = true then (c, true) else (0, false) := by
  match ts with
  | [] => rw [armsL]; simp
  | [a] => rw [armsL]; simp
  | [a, b] => rw [armsL]; simp [h]
  | a :: b :: c :: r => rw [armsL]; simp
section
variable {nm : List UInt8} {p fx idx : Int} {self : Tm} {M : PV}
set_option maxHeartbeats 2000000 in
set_option maxRecDepth 100000 in
theorem arms_can (hM : MkP nm p fx idx self M) (hfx : 0 ≤ fx ∧ fx ≤ 16) (hidx : 0 ≤ idx ∧ idx ≤ 16) (deep : Int) (hd : 0 ≤ deep ∧ deep ≤ 1000) (t : Tm) (v : PV) (hT : TmP t v) (hany : anyT t = true) :
    Pf C1 63 [M, v, iv deep] [iv (armsF nm self fx idx deep t).1, bv (armsF nm self fx idx deep t).2] := by
  have hst := fun t v h => mstands_can hM t v h
  have hen := fun deep hd t v h hw hh hl => end_can hM hfx hidx deep hd t v h hw hh hl
  have hs0 := hst t v hT
  have hdp := any_dep hany
  obtain ⟨k, a1, a2, a3, a4, a5, v1, v2, v3, v4, v5, cs, j1, j2, js, j3, j4, j5, j6, j7, j8, -⟩ := hM
  obtain ⟨k0, nn0, s0, ls0, ts0, b0, z0, xs0, c0, y0, ys0, rfl, rfl, -⟩   := hT.open
  refine run_intro Tryz.func63 rfl rfl rfl ?_
  repeat' ((conv => whnf) ; first | refine VIf.tt rfl ?_ | refine VIf.ff rfl ?_ | refine VIf.not ?_ | refine VIf.dtt (by assumption) ?_ | refine VIf.dff (by assumption) ?_ | refine VIf.dec (fun h => ?_) (fun h => ?_) | refine VIf.tt (by assumption) ?_ | refine VIf.ff (by assumption) ?_ | refine VIf.mk (fun h => ?_) (fun h => ?_) | refine VOk.mk rfl ?_ | refine VPur.mk rfl ?_ | refine VNat.mk _ rfl ?_ | refine VArith.fits (by unfold i64; omega) ?_ | refine vret_pf rfl ?_ | refine vret_take rfl rfl ?_ | refine vcall_pf hs0 rfl rfl ?_ | refine VTch.mk _ rfl ?_)
  all_goals (try (conv => whnf))
  · have hsT : stF nm (.mk k0 nn0 s0 ls0 ts0) = true := by simp_all [stF]
    have hF : armsF nm self fx idx deep (.mk k0 nn0 s0 ls0 ts0) = armsL nm self fx idx deep (.mk k0 nn0 s0 ls0 ts0) 0 := by rw [armsF, if_pos hsT]
    refine loop_over (G := Tm × PV × Nat) (fun g => [(8, iv g.2.2)]) (fun g => [.box 25 g.2.1.cells]) (fun g => TmP g.1 g.2.1 ∧ (∃ kk, allT g.1 4 kk = true) ∧ g.2.2 + depT g.1 ≤ 2000 ∧ armsL nm self fx idx deep g.1 g.2.2 = armsL nm self fx idx deep (.mk k0 nn0 s0 ls0 ts0) 0) (fun g => sizT g.1) (.mk k0 nn0 s0 ls0 ts0, .ag [iv k0, iv nn0, sv s0, .sl b0 z0 xs0, .sl c0 y0 ys0], 0) ⟨hT, ⟨_, (any_parts hany).2⟩, by simpa using hdp, rfl⟩ rfl rfl ?_
    rintro ⟨u, w, q⟩ ⟨hu, ⟨kk, hall⟩, hdq, heq⟩
    dsimp only at hu hall hdq heq ⊢
    have hw := spF_w u hu.w
    have hlu := spF_dep u
    obtain ⟨be, ze, xe, -, -, he⟩ := hen (deep + q) ⟨by omega, by omega⟩ u w hu (fun a ha => hw.1 a (by simpa [argsF] using ha)) hw.2 (by omega)
    obtain ⟨k1, nn, s, ls, ts, b, z, xs, c, y, ys, rfl, rfl, hz, hxs, hlen, hbd1, hy, hys, hlen2, hbd2, hsl⟩ := hu.open
    simp only [PV.cells]
    repeat' ((conv => whnf) ; first | refine VIf.tt rfl ?_ | refine VIf.ff rfl ?_ | refine VIf.not ?_ | refine VIf.dtt (by assumption) ?_ | refine VIf.dff (by assumption) ?_ | refine VIf.dec (fun h => ?_) (fun h => ?_) | refine VIf.tt (by assumption) ?_ | refine VIf.ff (by assumption) ?_ | refine VIf.mk (fun h => ?_) (fun h => ?_) | refine VOk.mk rfl ?_ | refine VPur.mk rfl ?_ | refine VNat.mk _ rfl ?_ | refine VArith.fits (by unfold i64; omega) ?_ | refine vret_pf rfl ?_ | refine vret_take rfl rfl ?_ | refine vcall_pf he rfl rfl ?_ | refine VTch.mk _ rfl ?_)
    all_goals (try (conv => whnf))
    · obtain ⟨a5, b5, rfl, hb5⟩ : ∃ a b, ts = [a, b] ∧ ∃ kk, allT b 4 kk = true := by
        obtain ⟨hk17, hlenk, hnode, -, hats⟩ := allT_parts hall
        rw [shArgs, if_pos (by omega)] at hlenk
        match ts, hlenk, hats with
        | [a, b], _, hats => exact ⟨a, b, rfl, _, allTs_at hats (by rfl : [a, b][1]? = some b)⟩
        | [], h, _ => simp at h
        | [_], h, _ => simp at h
        | _ :: _ :: _ :: _, h, _ => simp at h; omega
      obtain ⟨va, hva, hla⟩ := hys.at (by rfl : [a5, b5][0]? = some a5)
      obtain ⟨vb, hvb, hlb⟩ := hys.at (by rfl : [a5, b5][1]? = some b5)
      have hsa := hst a5 va hla
      obtain ⟨k6, n6, s6, l6, t6, b6, z6, x6, c6, y6, ys6, rfl, rfl, -⟩ := hla.open
      obtain ⟨k2, n2, s2, l2, t2, b2, z2, x2, c2, y2, ys2, rfl, rfl, -⟩ := hlb.open
      obtain rfl : k1 = 6 := by omega
      rw [armsL_pi] at heq
      simp only [depT, depTs] at hdq
      repeat' ((conv => whnf) ; first | refine VIf.tt rfl ?_ | refine VIf.ff rfl ?_ | refine VIf.not ?_ | refine VIf.dtt (by assumption) ?_ | refine VIf.dff (by assumption) ?_ | refine VIf.dec (fun h => ?_) (fun h => ?_) | refine VIf.tt (by assumption) ?_ | refine VIf.ff (by assumption) ?_ | refine VIf.mk (fun h => ?_) (fun h => ?_) | refine VOk.mk rfl ?_ | refine VPur.mk rfl ?_ | refine VNat.mk _ rfl ?_ | refine VArith.fits (by unfold i64; omega) ?_ | refine vret_pf rfl ?_ | refine vret_take rfl rfl ?_ | refine VIdx.mk _ hva ?_ | refine VIdx.mk _ hvb ?_ | refine VOk.mk (szOk_of rfl hy) ?_ | refine vcall_pf hsa rfl rfl ?_ | refine VTch.mk _ rfl ?_)
      all_goals (try (conv => whnf))
      · rw [hF, ← heq, if_pos (by simpa [stF] using (by assumption : nm ∈ ConstsF _))]
      · rw [if_neg (by simpa [stF] using (by assumption : ¬ nm ∈ ConstsF _))] at heq
        exact VAgain.mk _ rfl _ (gc_take rfl rfl rfl) ⟨(.mk k2 n2 s2 l2 t2, .ag [iv k2, iv n2, sv s2, .sl b2 z2 x2, .sl c2 y2 ys2], q + 1), ⟨hlb, hb5, by simp only [depT]; omega, heq⟩, by simp only [sizT, sizTs]; omega, rfl⟩
    all_goals rw [armsL_end (by assumption)] at heq
    · rw [hF, ← heq, if_pos (by simp_all)]
    · rw [hF, ← heq, if_neg (by simp_all)]
  · rw [armsF, if_neg (by simp_all [stF])]
end
end Go.Proofs.YtehhihdahalfeaaGreatDoor
namespace Go.Proofs.YtehhihdahalfeaaGreatDoor
open Go Go.Am Go.Gw
def selfT : Tm := cq treeN
theorem selfT_P : TmP selfT (.ag [iv 3, iv 0, sv treeN, .sl true 0 [], .sl true 0 []]) := okTm_ok (by kernel_rfl) (by kernel_rfl)
theorem treeM_P : MkP treeN 0 1 0 selfT treeM := .mk 5 _ _ _ _ _ _ _ _ _ _ _ 3 0 treeN true 0 [] true 0 [] selfT_P
/-- what posit.Arms answers at the tree -/
def treeArms (t : Tm) (deep : Int) : List PV := if rightT t 0 deep = true then (if (armsF treeN selfT 1 0 deep t).2 = true then [iv (armsF treeN selfT 1 0 deep t).1, iv 0] else [iv 0, iv 21]) else [iv 0, iv 10]
set_option maxHeartbeats 1000000 in
set_option maxRecDepth 100000 in
theorem ArmsG_can (t : Tm) (v : PV) (h : TmP t v) (deep : Int) (hd : 1 ≤ deep ∧ deep ≤ 64) (hr : rightT t 0 deep = true) : Pf C1 25 [treeS, v, iv deep] (treeArms t deep) := by
  have ha := arms_can treeM_P ⟨by omega, by omega⟩ ⟨by omega, by omega⟩ deep ⟨by omega, by omega⟩ t v h (rightT_any hr)
  have hb := treeBegin_can
  have hrt := termRight_can t v h 0 deep
  unfold treeArms
  rw [hr] at hrt
  rw [if_pos hr]
  generalize armsF treeN selfT 1 0 deep t = q at ha
  obtain ⟨n, ok⟩ := q
  obtain ⟨k0, nn0, s0, ls0, ts0, b0, z0, xs0, c0, y0, ys0, rfl, rfl, -⟩ := h.open
  cases ok
  all_goals
    refine run_intro Tryz.func25 rfl rfl rfl ?_
    repeat' ((conv => whnf) ; first | refine VIf.tt rfl ?_ | refine VIf.ff rfl ?_ | refine VIf.not ?_ | refine VIf.dtt (by assumption) ?_ | refine VIf.dff (by assumption) ?_ | refine VIf.dec (fun h => ?_) (fun h => ?_) | refine VIf.tt (by assumption) ?_ | refine VIf.ff (by assumption) ?_ | refine VIf.mk (fun h => ?_) (fun h => ?_) | refine VOk.mk rfl ?_ | refine VPur.mk rfl ?_ | refine VNat.mk _ rfl ?_ | refine VArith.fits (by unfold i64; omega) ?_ | refine vret_pf rfl ?_ | refine vret_take rfl rfl ?_ | refine vcall_pf hb rfl rfl ?_ | refine vcall_pf hrt rfl rfl ?_ | refine vcall_pf ha rfl rfl ?_ | refine finds_pf hb (fun _ => ?_) | refine finds_pf hrt (fun _ => ?_) | refine finds_pf ha (fun _ => ?_) | refine VTch.mk _ rfl ?_)
    all_goals (try (conv => whnf))
    all_goals first | rfl | omega | trace_state
/-! in so many binders -/
def natT : Tm := cq [110, 97, 116]
def natV : PV := .ag [iv 3, iv 0, sv [110, 97, 116], .sl true 0 [], .sl true 0 []]
def wr (t0 : Tm) : Nat → Tm
  | 0 => t0
  | i + 1 => pi_ natT ((LiftF (wr t0 i) 1 0).getD tz)
def wrV (v0 : PV) (t0 : Tm) : Nat → PV
  | 0 => v0
  | i + 1 => .ag [iv 6, iv 0, sv [], .sl true 0 [], .sl true 5 [natV, encT ((LiftF (wr t0 i) 1 0).getD tz)]]
theorem LiftF_w {t x : Tm} (h : TmW t) (hx : LiftF t 1 0 = some x) : TmW x := by
  unfold LiftF at hx
  split at hx
  · rename_i hc
    exact madeF_ok (movF_put (by omega)) h (any_parts hc.1).2 (by omega) (by have := any_dep hc.1; omega) (any_dep hc.1) hx
  · cases hx
theorem wr_P {t0 : Tm} {v0 : PV} (h : TmP t0 v0) : ∀ i, (∀ j, j < i → (LiftF (wr t0 j) 1 0).isSome = true) → TmP (wr t0 i) (wrV v0 t0 i)
  | 0, _ => h
  | i + 1, hj => by
    have h1 := wr_P h i (fun j hij => hj j (by omega))
    obtain ⟨x, hx⟩ := Option.isSome_iff_exists.1 (hj i (by omega))
    have hw := LiftF_w h1.w hx
    have hn : TmP natT natV := okTm_ok (by kernel_rfl) (by kernel_rfl)
    simp only [wr, wrV, hx, Option.getD_some, pi_]
    simp only [TmP]
    exact ⟨_, _, _, _, _, _, rfl, .inr rfl, by simp only [LvsP], by simp, .inl rfl, by simp only [TmsP]; exact ⟨_, _, rfl, hn, _, _, rfl, hw, rfl⟩, by simp, by simp, by unfold i64; omega⟩
/-- what the law reckons with, at each number of binders -/
def wrOk (t0 : Tm) (good : Bool) : Bool := (List.range 11).all fun n => (LiftF (wr t0 n) 1 0).isSome && (rightT (wr t0 n) 0 1 && (match armsF treeN selfT 1 0 1 (wr t0 n) with
  | (k, b) => if good then decide (k = n) && b else !b))
def g0T : Tm := ap selfT (vr 0)
def b0T : Tm := pi_ (ap selfT (vr 0)) (ap selfT (vr 1))
def b1T : Tm := pi_ (pi_ (vr 0) (ap selfT (vr 1))) (ap selfT (vr 1))
def b2T : Tm := ap selfT (ap selfT (vr 0))
def b4T : Tm := ap (cq [108, 105, 115, 116]) (ap selfT (vr 0))
set_option maxRecDepth 1000000 in
theorem g0_ok : wrOk g0T true = true := by kernel_rfl
set_option maxRecDepth 1000000 in
theorem b0_ok : wrOk b0T false = true := by kernel_rfl
set_option maxRecDepth 1000000 in
theorem b1_ok : wrOk b1T false = true := by kernel_rfl
set_option maxRecDepth 1000000 in
theorem b2_ok : wrOk b2T false = true := by kernel_rfl
set_option maxRecDepth 1000000 in
theorem b4_ok : wrOk b4T false = true := by kernel_rfl
theorem wrOk_at {t0 : Tm} {good : Bool} (h : wrOk t0 good = true) {n : Nat} (hn : n ≤ 10) : (LiftF (wr t0 n) 1 0).isSome = true ∧ rightT (wr t0 n) 0 1 = true ∧ (good = true → armsF treeN selfT 1 0 1 (wr t0 n) = ((n : Int), true)) ∧ (good = false → (armsF treeN selfT 1 0 1 (wr t0 n)).2 = false) := by
  have := List.all_eq_true.1 h n (List.mem_range.2 (by omega))
  rw [Bool.and_eq_true, Bool.and_eq_true] at this
  obtain ⟨h1, h2, h3⟩ := this
  refine ⟨h1, h2, fun e => ?_, fun e => ?_⟩
  · subst e
    generalize armsF treeN selfT 1 0 1 (wr t0 n) = q at h3 ⊢
    obtain ⟨k, b⟩ := q
    simpa using h3
  · subst e
    generalize armsF treeN selfT 1 0 1 (wr t0 n) = q at h3 ⊢
    obtain ⟨k, b⟩ := q
    simpa using h3
def gV : PV := .ag [iv 4, iv 0, sv [], .sl true 0 [], .sl true 5 [.ag [iv 3, iv 0, sv treeN, .sl true 0 [], .sl true 0 []], .ag [iv 1, iv 0, sv [], .sl true 0 [], .sl true 0 []]]]
theorem g_read : isTm g0T ((ev C1 60).call 31 [sv [40, 116, 114, 101, 101, 32, 35, 48, 41]] []) = true := by kernel_rfl
theorem b0_read : isTm b0T ((ev C1 60).call 31 [sv [40, 62, 32, 40, 116, 114, 101, 101, 32, 35, 48, 41, 32, 40, 116, 114, 101, 101, 32, 35, 49, 41, 41]] []) = true := by kernel_rfl
theorem b1_read : isTm b1T ((ev C1 60).call 31 [sv [40, 62, 32, 40, 62, 32, 35, 48, 32, 40, 116, 114, 101, 101, 32, 35, 49, 41, 41, 32, 40, 116, 114, 101, 101, 32, 35, 49, 41, 41]] []) = true := by kernel_rfl
theorem b2_read : isTm b2T ((ev C1 60).call 31 [sv [40, 116, 114, 101, 101, 32, 40, 116, 114, 101, 101, 32, 35, 48, 41, 41]] []) = true := by kernel_rfl
theorem b4_read : isTm b4T ((ev C1 60).call 31 [sv [40, 108, 105, 115, 116, 32, 40, 116, 114, 101, 101, 32, 35, 48, 41, 41]] []) = true := by kernel_rfl
theorem nat_read : Pf C1 31 [sv [110, 97, 116]] [natV] := pf_of (st' := []) 60 (by kernel_rfl)
/-- bits of a number -/
def bitsF (a c : Int) : Int := IntKind.i64.wrap ((BitVec.ofInt 64 a &&& BitVec.ofInt 64 c).toNat)
theorem sand {P : Program} {T : TypeId} {x y : Operand} {a c : Int} : slowBin P .and T x y (iv a) (iv c) = some (iv (bitsF a c)) := by
  simp only [slowBin, toVal, eqGuard, binOp, Op.intBits]
  rfl
set_option maxHeartbeats 4000000 in
set_option maxRecDepth 100000 in
theorem PositWrong_can (n at_ : Int) : Pf C1 6 [iv n, iv at_] [bv true] := by
  have hal := alive18_can
  obtain ⟨wg, hg, hrg⟩ := isTm_pf g_read
  obtain ⟨w0, h0, hr0⟩ := isTm_pf b0_read
  obtain ⟨w1, h1, hr1⟩ := isTm_pf b1_read
  obtain ⟨w2, h2, hr2⟩ := isTm_pf b2_read
  obtain ⟨w4, h4, hr4⟩ := isTm_pf b4_read
  obtain ⟨kg, ng, sg, lg, tg, bg, zg, xg, cg, yg, ysg, eg, rfl, -⟩ := hg.open
  obtain ⟨kh, nh, sh, _, _, bh, zh, xh, ch, yh, ysh, eh, rfl, -⟩ := h0.open
  obtain ⟨kj, nj, sj, _, _, bj, zj, xj, cj, yj, ysj, ej, rfl, -⟩ := h1.open
  obtain ⟨kk, nk, sk, _, _, bk, zk, xk, ck, yk, ysk, ek, rfl, -⟩ := h2.open
  obtain ⟨kl, nl, sl, _, _, bl, zl, xl, cl, yl, ysl, el, rfl, -⟩ := h4.open
  refine run_intro Tryz.func6 rfl rfl rfl ?_
  repeat' ((conv => whnf) ; first | refine VIf.tt rfl ?_ | refine VIf.ff rfl ?_ | refine VIf.not ?_ | refine VIf.dtt (by assumption) ?_ | refine VIf.dff (by assumption) ?_ | refine VIf.dec (fun h => ?_) (fun h => ?_) | refine VIf.tt (by assumption) ?_ | refine VIf.ff (by assumption) ?_ | refine VIf.mk (fun h => ?_) (fun h => ?_) | refine VOk.mk rfl ?_ | refine VPur.mk rfl ?_ | refine VNat.mk _ rfl ?_ | refine VArith.fits (by unfold i64; omega) ?_ | refine vret_pf rfl ?_ | refine vret_take rfl rfl ?_ | refine vcall_pf hal rfl rfl ?_ | refine vcall_pf hrg rfl rfl ?_ | refine vcall_pf hr0 rfl rfl ?_ | refine vcall_pf hr1 rfl rfl ?_ | refine vcall_pf hr2 rfl rfl ?_ | refine vcall_pf hr4 rfl rfl ?_ | refine VRes.mk _ sand ?_ | refine VTch.mk _ rfl ?_)
  all_goals (try (conv => whnf))
  · refine loop_over (G := Nat) (fun i => [(7, iv i)]) (fun i => [.box 25 (wrV (.ag [iv kg, iv ng, sv sg, .sl bg zg xg, .sl cg yg ysg]) g0T i).cells, .box 25 (wrV (.ag [iv kl, iv nl, sv sl, .sl bl zl xl, .sl cl yl ysl]) b4T i).cells]) (fun i => (i : Int) ≤ n) (fun i => n.toNat - i) 0 (by omega) rfl rfl ?_
    intro i hi
    have hi10 : i ≤ 10 := by omega
    obtain ⟨o1, o2, o3, -⟩ := wrOk_at g0_ok hi10
    obtain ⟨p1, p2, -, p3⟩ := wrOk_at b4_ok hi10
    have hP := wr_P hg i (fun j hj => (wrOk_at g0_ok (by omega)).1)
    have hQ := wr_P h4 i (fun j hj => (wrOk_at b4_ok (by omega)).1)
    obtain ⟨x, hx⟩ := Option.isSome_iff_exists.1 o1
    obtain ⟨y, hy⟩ := Option.isSome_iff_exists.1 p1
    have hLx := Lift_can _ _ hP 1 0
    have hLy := Lift_can _ _ hQ 1 0
    have hA1 := ArmsG_can _ _ hP 1 (by omega) o2
    have hA2 := ArmsG_can _ _ hQ 1 (by omega) p2
    have hrr := refRightT_can _ _ hP hP.names 0 1
    unfold treeArms at hA1 hA2
    rw [if_pos o2, o3 rfl, if_pos rfl] at hA1
    rw [if_pos p2, p3 rfl, if_neg Bool.false_ne_true] at hA2
    rw [o2] at hrr
    rw [hx] at hLx
    rw [hy] at hLy
    simp only [putV] at hLx hLy
    have e1 : wrV (.ag [iv kg, iv ng, sv sg, .sl bg zg xg, .sl cg yg ysg]) g0T (i + 1) = .ag [iv 6, iv 0, sv [], .sl true 0 [], .sl true 5 [natV, encT x]] := by rw [wrV, hx]; rfl
    have e2 : wrV (.ag [iv kl, iv nl, sv sl, .sl bl zl xl, .sl cl yl ysl]) b4T (i + 1) = .ag [iv 6, iv 0, sv [], .sl true 0 [], .sl true 5 [natV, encT y]] := by rw [wrV, hy]; rfl
    obtain ⟨k1, n1, s1, b1, z1, x1, c1, y1, ys1, he1⟩ := encT_open x
    obtain ⟨k2, n2, s2, b2, z2, x2, c2, y2, ys2, he2⟩ := encT_open y
    rw [he1] at hLx e1
    rw [he2] at hLy e2
    obtain ⟨k3, n3, s3, l3, t3, b3, z3, x3, c3, y3, ys3, eq3, he3, -⟩ := hP.open
    obtain ⟨k4, n4, s4, l4, t4, b4, z4, x4, c4, y4, ys4, eq4, he4, -⟩ := hQ.open
    rw [he3] at hLx hA1 hrr
    rw [he4] at hLy hA2
    rw [he3, he4]
    simp only [PV.cells]
    repeat' ((conv => whnf) ; first | refine VIf.tt rfl ?_ | refine VIf.ff rfl ?_ | refine VIf.not ?_ | refine VIf.dtt (by assumption) ?_ | refine VIf.dff (by assumption) ?_ | refine VIf.dec (fun h => ?_) (fun h => ?_) | refine VIf.tt (by assumption) ?_ | refine VIf.ff (by assumption) ?_ | refine VIf.mk (fun h => ?_) (fun h => ?_) | refine VOk.mk rfl ?_ | refine VPur.mk rfl ?_ | refine VNat.mk _ rfl ?_ | refine VArith.fits (by unfold i64; omega) ?_ | refine vret_pf rfl ?_ | refine vret_take rfl rfl ?_ | refine vcall_pf hLx rfl rfl ?_ | refine vcall_pf hLy rfl rfl ?_ | refine vcall_pf nat_read rfl rfl ?_ | refine finds_pf nat_read (fun _ => ?_) | refine vcall_hand rfl rfl hA1 rfl ?_ | refine vcall_hand rfl rfl hA2 rfl ?_ | refine vcall_pf hrr rfl rfl ?_ | refine vcall_made rfl (finds_tree ⟨rfl, ?_⟩) | refine finds_tree ?_ | refine VPur.made rfl ?_ | refine vback rfl ?_ | refine VTch.mk _ rfl ?_)
    all_goals (try (conv => whnf))
    · exact VAgain.mk _ rfl _ (gc_take rfl rfl rfl) ⟨i + 1, by omega, by omega, by dsimp only; rw [e1, e2]; rfl⟩
    · rfl
    · exfalso
      omega
  · refine loop_over (G := Nat) (fun i => [(7, iv i)]) (fun i => [.box 25 (wrV (.ag [iv kg, iv ng, sv sg, .sl bg zg xg, .sl cg yg ysg]) g0T i).cells, .box 25 (wrV (.ag [iv kk, iv nk, sv sk, .sl bk zk xk, .sl ck yk ysk]) b2T i).cells]) (fun i => (i : Int) ≤ n) (fun i => n.toNat - i) 0 (by omega) rfl rfl ?_
    intro i hi
    have hi10 : i ≤ 10 := by omega
    obtain ⟨o1, o2, o3, -⟩ := wrOk_at g0_ok hi10
    obtain ⟨p1, p2, -, p3⟩ := wrOk_at b2_ok hi10
    have hP := wr_P hg i (fun j hj => (wrOk_at g0_ok (by omega)).1)
    have hQ := wr_P h2 i (fun j hj => (wrOk_at b2_ok (by omega)).1)
    obtain ⟨x, hx⟩ := Option.isSome_iff_exists.1 o1
    obtain ⟨y, hy⟩ := Option.isSome_iff_exists.1 p1
    have hLx := Lift_can _ _ hP 1 0
    have hLy := Lift_can _ _ hQ 1 0
    have hA1 := ArmsG_can _ _ hP 1 (by omega) o2
    have hA2 := ArmsG_can _ _ hQ 1 (by omega) p2
    have hrr := refRightT_can _ _ hP hP.names 0 1
    unfold treeArms at hA1 hA2
    rw [if_pos o2, o3 rfl, if_pos rfl] at hA1
    rw [if_pos p2, p3 rfl, if_neg Bool.false_ne_true] at hA2
    rw [o2] at hrr
    rw [hx] at hLx
    rw [hy] at hLy
    simp only [putV] at hLx hLy
    have e1 : wrV (.ag [iv kg, iv ng, sv sg, .sl bg zg xg, .sl cg yg ysg]) g0T (i + 1) = .ag [iv 6, iv 0, sv [], .sl true 0 [], .sl true 5 [natV, encT x]] := by rw [wrV, hx]; rfl
    have e2 : wrV (.ag [iv kk, iv nk, sv sk, .sl bk zk xk, .sl ck yk ysk]) b2T (i + 1) = .ag [iv 6, iv 0, sv [], .sl true 0 [], .sl true 5 [natV, encT y]] := by rw [wrV, hy]; rfl
    obtain ⟨k1, n1, s1, b1, z1, x1, c1, y1, ys1, he1⟩ := encT_open x
    obtain ⟨k2, n2, s2, b2, z2, x2, c2, y2, ys2, he2⟩ := encT_open y
    rw [he1] at hLx e1
    rw [he2] at hLy e2
    obtain ⟨k3, n3, s3, l3, t3, b3, z3, x3, c3, y3, ys3, eq3, he3, -⟩ := hP.open
    obtain ⟨k4, n4, s4, l4, t4, b4, z4, x4, c4, y4, ys4, eq4, he4, -⟩ := hQ.open
    rw [he3] at hLx hA1 hrr
    rw [he4] at hLy hA2
    rw [he3, he4]
    simp only [PV.cells]
    repeat' ((conv => whnf) ; first | refine VIf.tt rfl ?_ | refine VIf.ff rfl ?_ | refine VIf.not ?_ | refine VIf.dtt (by assumption) ?_ | refine VIf.dff (by assumption) ?_ | refine VIf.dec (fun h => ?_) (fun h => ?_) | refine VIf.tt (by assumption) ?_ | refine VIf.ff (by assumption) ?_ | refine VIf.mk (fun h => ?_) (fun h => ?_) | refine VOk.mk rfl ?_ | refine VPur.mk rfl ?_ | refine VNat.mk _ rfl ?_ | refine VArith.fits (by unfold i64; omega) ?_ | refine vret_pf rfl ?_ | refine vret_take rfl rfl ?_ | refine vcall_pf hLx rfl rfl ?_ | refine vcall_pf hLy rfl rfl ?_ | refine vcall_pf nat_read rfl rfl ?_ | refine finds_pf nat_read (fun _ => ?_) | refine vcall_hand rfl rfl hA1 rfl ?_ | refine vcall_hand rfl rfl hA2 rfl ?_ | refine vcall_pf hrr rfl rfl ?_ | refine vcall_made rfl (finds_tree ⟨rfl, ?_⟩) | refine finds_tree ?_ | refine VPur.made rfl ?_ | refine vback rfl ?_ | refine VTch.mk _ rfl ?_)
    all_goals (try (conv => whnf))
    · exact VAgain.mk _ rfl _ (gc_take rfl rfl rfl) ⟨i + 1, by omega, by omega, by dsimp only; rw [e1, e2]; rfl⟩
    · rfl
    · exfalso
      omega
  · refine loop_over (G := Nat) (fun i => [(7, iv i)]) (fun i => [.box 25 (wrV (.ag [iv kg, iv ng, sv sg, .sl bg zg xg, .sl cg yg ysg]) g0T i).cells, .box 25 (wrV (.ag [iv kl, iv nl, sv sl, .sl bl zl xl, .sl cl yl ysl]) b4T i).cells]) (fun i => (i : Int) ≤ n) (fun i => n.toNat - i) 0 (by omega) rfl rfl ?_
    intro i hi
    have hi10 : i ≤ 10 := by omega
    obtain ⟨o1, o2, o3, -⟩ := wrOk_at g0_ok hi10
    obtain ⟨p1, p2, -, p3⟩ := wrOk_at b4_ok hi10
    have hP := wr_P hg i (fun j hj => (wrOk_at g0_ok (by omega)).1)
    have hQ := wr_P h4 i (fun j hj => (wrOk_at b4_ok (by omega)).1)
    obtain ⟨x, hx⟩ := Option.isSome_iff_exists.1 o1
    obtain ⟨y, hy⟩ := Option.isSome_iff_exists.1 p1
    have hLx := Lift_can _ _ hP 1 0
    have hLy := Lift_can _ _ hQ 1 0
    have hA1 := ArmsG_can _ _ hP 1 (by omega) o2
    have hA2 := ArmsG_can _ _ hQ 1 (by omega) p2
    have hrr := refRightT_can _ _ hP hP.names 0 1
    unfold treeArms at hA1 hA2
    rw [if_pos o2, o3 rfl, if_pos rfl] at hA1
    rw [if_pos p2, p3 rfl, if_neg Bool.false_ne_true] at hA2
    rw [o2] at hrr
    rw [hx] at hLx
    rw [hy] at hLy
    simp only [putV] at hLx hLy
    have e1 : wrV (.ag [iv kg, iv ng, sv sg, .sl bg zg xg, .sl cg yg ysg]) g0T (i + 1) = .ag [iv 6, iv 0, sv [], .sl true 0 [], .sl true 5 [natV, encT x]] := by rw [wrV, hx]; rfl
    have e2 : wrV (.ag [iv kl, iv nl, sv sl, .sl bl zl xl, .sl cl yl ysl]) b4T (i + 1) = .ag [iv 6, iv 0, sv [], .sl true 0 [], .sl true 5 [natV, encT y]] := by rw [wrV, hy]; rfl
    obtain ⟨k1, n1, s1, b1, z1, x1, c1, y1, ys1, he1⟩ := encT_open x
    obtain ⟨k2, n2, s2, b2, z2, x2, c2, y2, ys2, he2⟩ := encT_open y
    rw [he1] at hLx e1
    rw [he2] at hLy e2
    obtain ⟨k3, n3, s3, l3, t3, b3, z3, x3, c3, y3, ys3, eq3, he3, -⟩ := hP.open
    obtain ⟨k4, n4, s4, l4, t4, b4, z4, x4, c4, y4, ys4, eq4, he4, -⟩ := hQ.open
    rw [he3] at hLx hA1 hrr
    rw [he4] at hLy hA2
    rw [he3, he4]
    simp only [PV.cells]
    repeat' ((conv => whnf) ; first | refine VIf.tt rfl ?_ | refine VIf.ff rfl ?_ | refine VIf.not ?_ | refine VIf.dtt (by assumption) ?_ | refine VIf.dff (by assumption) ?_ | refine VIf.dec (fun h => ?_) (fun h => ?_) | refine VIf.tt (by assumption) ?_ | refine VIf.ff (by assumption) ?_ | refine VIf.mk (fun h => ?_) (fun h => ?_) | refine VOk.mk rfl ?_ | refine VPur.mk rfl ?_ | refine VNat.mk _ rfl ?_ | refine VArith.fits (by unfold i64; omega) ?_ | refine vret_pf rfl ?_ | refine vret_take rfl rfl ?_ | refine vcall_pf hLx rfl rfl ?_ | refine vcall_pf hLy rfl rfl ?_ | refine vcall_pf nat_read rfl rfl ?_ | refine finds_pf nat_read (fun _ => ?_) | refine vcall_hand rfl rfl hA1 rfl ?_ | refine vcall_hand rfl rfl hA2 rfl ?_ | refine vcall_pf hrr rfl rfl ?_ | refine vcall_made rfl (finds_tree ⟨rfl, ?_⟩) | refine finds_tree ?_ | refine VPur.made rfl ?_ | refine vback rfl ?_ | refine VTch.mk _ rfl ?_)
    all_goals (try (conv => whnf))
    · exact VAgain.mk _ rfl _ (gc_take rfl rfl rfl) ⟨i + 1, by omega, by omega, by dsimp only; rw [e1, e2]; rfl⟩
    · rfl
    · exfalso
      omega
  · refine loop_over (G := Nat) (fun i => [(7, iv i)]) (fun i => [.box 25 (wrV (.ag [iv kg, iv ng, sv sg, .sl bg zg xg, .sl cg yg ysg]) g0T i).cells, .box 25 (wrV (.ag [iv kj, iv nj, sv sj, .sl bj zj xj, .sl cj yj ysj]) b1T i).cells]) (fun i => (i : Int) ≤ n) (fun i => n.toNat - i) 0 (by omega) rfl rfl ?_
    intro i hi
    have hi10 : i ≤ 10 := by omega
    obtain ⟨o1, o2, o3, -⟩ := wrOk_at g0_ok hi10
    obtain ⟨p1, p2, -, p3⟩ := wrOk_at b1_ok hi10
    have hP := wr_P hg i (fun j hj => (wrOk_at g0_ok (by omega)).1)
    have hQ := wr_P h1 i (fun j hj => (wrOk_at b1_ok (by omega)).1)
    obtain ⟨x, hx⟩ := Option.isSome_iff_exists.1 o1
    obtain ⟨y, hy⟩ := Option.isSome_iff_exists.1 p1
    have hLx := Lift_can _ _ hP 1 0
    have hLy := Lift_can _ _ hQ 1 0
    have hA1 := ArmsG_can _ _ hP 1 (by omega) o2
    have hA2 := ArmsG_can _ _ hQ 1 (by omega) p2
    have hrr := refRightT_can _ _ hP hP.names 0 1
    unfold treeArms at hA1 hA2
    rw [if_pos o2, o3 rfl, if_pos rfl] at hA1
    rw [if_pos p2, p3 rfl, if_neg Bool.false_ne_true] at hA2
    rw [o2] at hrr
    rw [hx] at hLx
    rw [hy] at hLy
    simp only [putV] at hLx hLy
    have e1 : wrV (.ag [iv kg, iv ng, sv sg, .sl bg zg xg, .sl cg yg ysg]) g0T (i + 1) = .ag [iv 6, iv 0, sv [], .sl true 0 [], .sl true 5 [natV, encT x]] := by rw [wrV, hx]; rfl
    have e2 : wrV (.ag [iv kj, iv nj, sv sj, .sl bj zj xj, .sl cj yj ysj]) b1T (i + 1) = .ag [iv 6, iv 0, sv [], .sl true 0 [], .sl true 5 [natV, encT y]] := by rw [wrV, hy]; rfl
    obtain ⟨k1, n1, s1, b1, z1, x1, c1, y1, ys1, he1⟩ := encT_open x
    obtain ⟨k2, n2, s2, b2, z2, x2, c2, y2, ys2, he2⟩ := encT_open y
    rw [he1] at hLx e1
    rw [he2] at hLy e2
    obtain ⟨k3, n3, s3, l3, t3, b3, z3, x3, c3, y3, ys3, eq3, he3, -⟩ := hP.open
    obtain ⟨k4, n4, s4, l4, t4, b4, z4, x4, c4, y4, ys4, eq4, he4, -⟩ := hQ.open
    rw [he3] at hLx hA1 hrr
    rw [he4] at hLy hA2
    rw [he3, he4]
    simp only [PV.cells]
    repeat' ((conv => whnf) ; first | refine VIf.tt rfl ?_ | refine VIf.ff rfl ?_ | refine VIf.not ?_ | refine VIf.dtt (by assumption) ?_ | refine VIf.dff (by assumption) ?_ | refine VIf.dec (fun h => ?_) (fun h => ?_) | refine VIf.tt (by assumption) ?_ | refine VIf.ff (by assumption) ?_ | refine VIf.mk (fun h => ?_) (fun h => ?_) | refine VOk.mk rfl ?_ | refine VPur.mk rfl ?_ | refine VNat.mk _ rfl ?_ | refine VArith.fits (by unfold i64; omega) ?_ | refine vret_pf rfl ?_ | refine vret_take rfl rfl ?_ | refine vcall_pf hLx rfl rfl ?_ | refine vcall_pf hLy rfl rfl ?_ | refine vcall_pf nat_read rfl rfl ?_ | refine finds_pf nat_read (fun _ => ?_) | refine vcall_hand rfl rfl hA1 rfl ?_ | refine vcall_hand rfl rfl hA2 rfl ?_ | refine vcall_pf hrr rfl rfl ?_ | refine vcall_made rfl (finds_tree ⟨rfl, ?_⟩) | refine finds_tree ?_ | refine VPur.made rfl ?_ | refine vback rfl ?_ | refine VTch.mk _ rfl ?_)
    all_goals (try (conv => whnf))
    · exact VAgain.mk _ rfl _ (gc_take rfl rfl rfl) ⟨i + 1, by omega, by omega, by dsimp only; rw [e1, e2]; rfl⟩
    · rfl
    · exfalso
      omega
  · refine loop_over (G := Nat) (fun i => [(7, iv i)]) (fun i => [.box 25 (wrV (.ag [iv kg, iv ng, sv sg, .sl bg zg xg, .sl cg yg ysg]) g0T i).cells, .box 25 (wrV (.ag [iv kl, iv nl, sv sl, .sl bl zl xl, .sl cl yl ysl]) b4T i).cells]) (fun i => (i : Int) ≤ n) (fun i => n.toNat - i) 0 (by omega) rfl rfl ?_
    intro i hi
    have hi10 : i ≤ 10 := by omega
    obtain ⟨o1, o2, o3, -⟩ := wrOk_at g0_ok hi10
    obtain ⟨p1, p2, -, p3⟩ := wrOk_at b4_ok hi10
    have hP := wr_P hg i (fun j hj => (wrOk_at g0_ok (by omega)).1)
    have hQ := wr_P h4 i (fun j hj => (wrOk_at b4_ok (by omega)).1)
    obtain ⟨x, hx⟩ := Option.isSome_iff_exists.1 o1
    obtain ⟨y, hy⟩ := Option.isSome_iff_exists.1 p1
    have hLx := Lift_can _ _ hP 1 0
    have hLy := Lift_can _ _ hQ 1 0
    have hA1 := ArmsG_can _ _ hP 1 (by omega) o2
    have hA2 := ArmsG_can _ _ hQ 1 (by omega) p2
    have hrr := refRightT_can _ _ hP hP.names 0 1
    unfold treeArms at hA1 hA2
    rw [if_pos o2, o3 rfl, if_pos rfl] at hA1
    rw [if_pos p2, p3 rfl, if_neg Bool.false_ne_true] at hA2
    rw [o2] at hrr
    rw [hx] at hLx
    rw [hy] at hLy
    simp only [putV] at hLx hLy
    have e1 : wrV (.ag [iv kg, iv ng, sv sg, .sl bg zg xg, .sl cg yg ysg]) g0T (i + 1) = .ag [iv 6, iv 0, sv [], .sl true 0 [], .sl true 5 [natV, encT x]] := by rw [wrV, hx]; rfl
    have e2 : wrV (.ag [iv kl, iv nl, sv sl, .sl bl zl xl, .sl cl yl ysl]) b4T (i + 1) = .ag [iv 6, iv 0, sv [], .sl true 0 [], .sl true 5 [natV, encT y]] := by rw [wrV, hy]; rfl
    obtain ⟨k1, n1, s1, b1, z1, x1, c1, y1, ys1, he1⟩ := encT_open x
    obtain ⟨k2, n2, s2, b2, z2, x2, c2, y2, ys2, he2⟩ := encT_open y
    rw [he1] at hLx e1
    rw [he2] at hLy e2
    obtain ⟨k3, n3, s3, l3, t3, b3, z3, x3, c3, y3, ys3, eq3, he3, -⟩ := hP.open
    obtain ⟨k4, n4, s4, l4, t4, b4, z4, x4, c4, y4, ys4, eq4, he4, -⟩ := hQ.open
    rw [he3] at hLx hA1 hrr
    rw [he4] at hLy hA2
    rw [he3, he4]
    simp only [PV.cells]
    repeat' ((conv => whnf) ; first | refine VIf.tt rfl ?_ | refine VIf.ff rfl ?_ | refine VIf.not ?_ | refine VIf.dtt (by assumption) ?_ | refine VIf.dff (by assumption) ?_ | refine VIf.dec (fun h => ?_) (fun h => ?_) | refine VIf.tt (by assumption) ?_ | refine VIf.ff (by assumption) ?_ | refine VIf.mk (fun h => ?_) (fun h => ?_) | refine VOk.mk rfl ?_ | refine VPur.mk rfl ?_ | refine VNat.mk _ rfl ?_ | refine VArith.fits (by unfold i64; omega) ?_ | refine vret_pf rfl ?_ | refine vret_take rfl rfl ?_ | refine vcall_pf hLx rfl rfl ?_ | refine vcall_pf hLy rfl rfl ?_ | refine vcall_pf nat_read rfl rfl ?_ | refine finds_pf nat_read (fun _ => ?_) | refine vcall_hand rfl rfl hA1 rfl ?_ | refine vcall_hand rfl rfl hA2 rfl ?_ | refine vcall_pf hrr rfl rfl ?_ | refine vcall_made rfl (finds_tree ⟨rfl, ?_⟩) | refine finds_tree ?_ | refine VPur.made rfl ?_ | refine vback rfl ?_ | refine VTch.mk _ rfl ?_)
    all_goals (try (conv => whnf))
    · exact VAgain.mk _ rfl _ (gc_take rfl rfl rfl) ⟨i + 1, by omega, by omega, by dsimp only; rw [e1, e2]; rfl⟩
    · rfl
    · exfalso
      omega
  · refine loop_over (G := Nat) (fun i => [(7, iv i)]) (fun i => [.box 25 (wrV (.ag [iv kg, iv ng, sv sg, .sl bg zg xg, .sl cg yg ysg]) g0T i).cells, .box 25 (wrV (.ag [iv kk, iv nk, sv sk, .sl bk zk xk, .sl ck yk ysk]) b2T i).cells]) (fun i => (i : Int) ≤ n) (fun i => n.toNat - i) 0 (by omega) rfl rfl ?_
    intro i hi
    have hi10 : i ≤ 10 := by omega
    obtain ⟨o1, o2, o3, -⟩ := wrOk_at g0_ok hi10
    obtain ⟨p1, p2, -, p3⟩ := wrOk_at b2_ok hi10
    have hP := wr_P hg i (fun j hj => (wrOk_at g0_ok (by omega)).1)
    have hQ := wr_P h2 i (fun j hj => (wrOk_at b2_ok (by omega)).1)
    obtain ⟨x, hx⟩ := Option.isSome_iff_exists.1 o1
    obtain ⟨y, hy⟩ := Option.isSome_iff_exists.1 p1
    have hLx := Lift_can _ _ hP 1 0
    have hLy := Lift_can _ _ hQ 1 0
    have hA1 := ArmsG_can _ _ hP 1 (by omega) o2
    have hA2 := ArmsG_can _ _ hQ 1 (by omega) p2
    have hrr := refRightT_can _ _ hP hP.names 0 1
    unfold treeArms at hA1 hA2
    rw [if_pos o2, o3 rfl, if_pos rfl] at hA1
    rw [if_pos p2, p3 rfl, if_neg Bool.false_ne_true] at hA2
    rw [o2] at hrr
    rw [hx] at hLx
    rw [hy] at hLy
    simp only [putV] at hLx hLy
    have e1 : wrV (.ag [iv kg, iv ng, sv sg, .sl bg zg xg, .sl cg yg ysg]) g0T (i + 1) = .ag [iv 6, iv 0, sv [], .sl true 0 [], .sl true 5 [natV, encT x]] := by rw [wrV, hx]; rfl
    have e2 : wrV (.ag [iv kk, iv nk, sv sk, .sl bk zk xk, .sl ck yk ysk]) b2T (i + 1) = .ag [iv 6, iv 0, sv [], .sl true 0 [], .sl true 5 [natV, encT y]] := by rw [wrV, hy]; rfl
    obtain ⟨k1, n1, s1, b1, z1, x1, c1, y1, ys1, he1⟩ := encT_open x
    obtain ⟨k2, n2, s2, b2, z2, x2, c2, y2, ys2, he2⟩ := encT_open y
    rw [he1] at hLx e1
    rw [he2] at hLy e2
    obtain ⟨k3, n3, s3, l3, t3, b3, z3, x3, c3, y3, ys3, eq3, he3, -⟩ := hP.open
    obtain ⟨k4, n4, s4, l4, t4, b4, z4, x4, c4, y4, ys4, eq4, he4, -⟩ := hQ.open
    rw [he3] at hLx hA1 hrr
    rw [he4] at hLy hA2
    rw [he3, he4]
    simp only [PV.cells]
    repeat' ((conv => whnf) ; first | refine VIf.tt rfl ?_ | refine VIf.ff rfl ?_ | refine VIf.not ?_ | refine VIf.dtt (by assumption) ?_ | refine VIf.dff (by assumption) ?_ | refine VIf.dec (fun h => ?_) (fun h => ?_) | refine VIf.tt (by assumption) ?_ | refine VIf.ff (by assumption) ?_ | refine VIf.mk (fun h => ?_) (fun h => ?_) | refine VOk.mk rfl ?_ | refine VPur.mk rfl ?_ | refine VNat.mk _ rfl ?_ | refine VArith.fits (by unfold i64; omega) ?_ | refine vret_pf rfl ?_ | refine vret_take rfl rfl ?_ | refine vcall_pf hLx rfl rfl ?_ | refine vcall_pf hLy rfl rfl ?_ | refine vcall_pf nat_read rfl rfl ?_ | refine finds_pf nat_read (fun _ => ?_) | refine vcall_hand rfl rfl hA1 rfl ?_ | refine vcall_hand rfl rfl hA2 rfl ?_ | refine vcall_pf hrr rfl rfl ?_ | refine vcall_made rfl (finds_tree ⟨rfl, ?_⟩) | refine finds_tree ?_ | refine VPur.made rfl ?_ | refine vback rfl ?_ | refine VTch.mk _ rfl ?_)
    all_goals (try (conv => whnf))
    · exact VAgain.mk _ rfl _ (gc_take rfl rfl rfl) ⟨i + 1, by omega, by omega, by dsimp only; rw [e1, e2]; rfl⟩
    · rfl
    · exfalso
      omega
  · refine loop_over (G := Nat) (fun i => [(7, iv i)]) (fun i => [.box 25 (wrV (.ag [iv kg, iv ng, sv sg, .sl bg zg xg, .sl cg yg ysg]) g0T i).cells, .box 25 (wrV (.ag [iv kl, iv nl, sv sl, .sl bl zl xl, .sl cl yl ysl]) b4T i).cells]) (fun i => (i : Int) ≤ n) (fun i => n.toNat - i) 0 (by omega) rfl rfl ?_
    intro i hi
    have hi10 : i ≤ 10 := by omega
    obtain ⟨o1, o2, o3, -⟩ := wrOk_at g0_ok hi10
    obtain ⟨p1, p2, -, p3⟩ := wrOk_at b4_ok hi10
    have hP := wr_P hg i (fun j hj => (wrOk_at g0_ok (by omega)).1)
    have hQ := wr_P h4 i (fun j hj => (wrOk_at b4_ok (by omega)).1)
    obtain ⟨x, hx⟩ := Option.isSome_iff_exists.1 o1
    obtain ⟨y, hy⟩ := Option.isSome_iff_exists.1 p1
    have hLx := Lift_can _ _ hP 1 0
    have hLy := Lift_can _ _ hQ 1 0
    have hA1 := ArmsG_can _ _ hP 1 (by omega) o2
    have hA2 := ArmsG_can _ _ hQ 1 (by omega) p2
    have hrr := refRightT_can _ _ hP hP.names 0 1
    unfold treeArms at hA1 hA2
    rw [if_pos o2, o3 rfl, if_pos rfl] at hA1
    rw [if_pos p2, p3 rfl, if_neg Bool.false_ne_true] at hA2
    rw [o2] at hrr
    rw [hx] at hLx
    rw [hy] at hLy
    simp only [putV] at hLx hLy
    have e1 : wrV (.ag [iv kg, iv ng, sv sg, .sl bg zg xg, .sl cg yg ysg]) g0T (i + 1) = .ag [iv 6, iv 0, sv [], .sl true 0 [], .sl true 5 [natV, encT x]] := by rw [wrV, hx]; rfl
    have e2 : wrV (.ag [iv kl, iv nl, sv sl, .sl bl zl xl, .sl cl yl ysl]) b4T (i + 1) = .ag [iv 6, iv 0, sv [], .sl true 0 [], .sl true 5 [natV, encT y]] := by rw [wrV, hy]; rfl
    obtain ⟨k1, n1, s1, b1, z1, x1, c1, y1, ys1, he1⟩ := encT_open x
    obtain ⟨k2, n2, s2, b2, z2, x2, c2, y2, ys2, he2⟩ := encT_open y
    rw [he1] at hLx e1
    rw [he2] at hLy e2
    obtain ⟨k3, n3, s3, l3, t3, b3, z3, x3, c3, y3, ys3, eq3, he3, -⟩ := hP.open
    obtain ⟨k4, n4, s4, l4, t4, b4, z4, x4, c4, y4, ys4, eq4, he4, -⟩ := hQ.open
    rw [he3] at hLx hA1 hrr
    rw [he4] at hLy hA2
    rw [he3, he4]
    simp only [PV.cells]
    repeat' ((conv => whnf) ; first | refine VIf.tt rfl ?_ | refine VIf.ff rfl ?_ | refine VIf.not ?_ | refine VIf.dtt (by assumption) ?_ | refine VIf.dff (by assumption) ?_ | refine VIf.dec (fun h => ?_) (fun h => ?_) | refine VIf.tt (by assumption) ?_ | refine VIf.ff (by assumption) ?_ | refine VIf.mk (fun h => ?_) (fun h => ?_) | refine VOk.mk rfl ?_ | refine VPur.mk rfl ?_ | refine VNat.mk _ rfl ?_ | refine VArith.fits (by unfold i64; omega) ?_ | refine vret_pf rfl ?_ | refine vret_take rfl rfl ?_ | refine vcall_pf hLx rfl rfl ?_ | refine vcall_pf hLy rfl rfl ?_ | refine vcall_pf nat_read rfl rfl ?_ | refine finds_pf nat_read (fun _ => ?_) | refine vcall_hand rfl rfl hA1 rfl ?_ | refine vcall_hand rfl rfl hA2 rfl ?_ | refine vcall_pf hrr rfl rfl ?_ | refine vcall_made rfl (finds_tree ⟨rfl, ?_⟩) | refine finds_tree ?_ | refine VPur.made rfl ?_ | refine vback rfl ?_ | refine VTch.mk _ rfl ?_)
    all_goals (try (conv => whnf))
    · exact VAgain.mk _ rfl _ (gc_take rfl rfl rfl) ⟨i + 1, by omega, by omega, by dsimp only; rw [e1, e2]; rfl⟩
    · rfl
    · exfalso
      omega
  · refine loop_over (G := Nat) (fun i => [(7, iv i)]) (fun i => [.box 25 (wrV (.ag [iv kg, iv ng, sv sg, .sl bg zg xg, .sl cg yg ysg]) g0T i).cells, .box 25 (wrV (.ag [iv kh, iv nh, sv sh, .sl bh zh xh, .sl ch yh ysh]) b0T i).cells]) (fun i => (i : Int) ≤ n) (fun i => n.toNat - i) 0 (by omega) rfl rfl ?_
    intro i hi
    have hi10 : i ≤ 10 := by omega
    obtain ⟨o1, o2, o3, -⟩ := wrOk_at g0_ok hi10
    obtain ⟨p1, p2, -, p3⟩ := wrOk_at b0_ok hi10
    have hP := wr_P hg i (fun j hj => (wrOk_at g0_ok (by omega)).1)
    have hQ := wr_P h0 i (fun j hj => (wrOk_at b0_ok (by omega)).1)
    obtain ⟨x, hx⟩ := Option.isSome_iff_exists.1 o1
    obtain ⟨y, hy⟩ := Option.isSome_iff_exists.1 p1
    have hLx := Lift_can _ _ hP 1 0
    have hLy := Lift_can _ _ hQ 1 0
    have hA1 := ArmsG_can _ _ hP 1 (by omega) o2
    have hA2 := ArmsG_can _ _ hQ 1 (by omega) p2
    have hrr := refRightT_can _ _ hP hP.names 0 1
    unfold treeArms at hA1 hA2
    rw [if_pos o2, o3 rfl, if_pos rfl] at hA1
    rw [if_pos p2, p3 rfl, if_neg Bool.false_ne_true] at hA2
    rw [o2] at hrr
    rw [hx] at hLx
    rw [hy] at hLy
    simp only [putV] at hLx hLy
    have e1 : wrV (.ag [iv kg, iv ng, sv sg, .sl bg zg xg, .sl cg yg ysg]) g0T (i + 1) = .ag [iv 6, iv 0, sv [], .sl true 0 [], .sl true 5 [natV, encT x]] := by rw [wrV, hx]; rfl
    have e2 : wrV (.ag [iv kh, iv nh, sv sh, .sl bh zh xh, .sl ch yh ysh]) b0T (i + 1) = .ag [iv 6, iv 0, sv [], .sl true 0 [], .sl true 5 [natV, encT y]] := by rw [wrV, hy]; rfl
    obtain ⟨k1, n1, s1, b1, z1, x1, c1, y1, ys1, he1⟩ := encT_open x
    obtain ⟨k2, n2, s2, b2, z2, x2, c2, y2, ys2, he2⟩ := encT_open y
    rw [he1] at hLx e1
    rw [he2] at hLy e2
    obtain ⟨k3, n3, s3, l3, t3, b3, z3, x3, c3, y3, ys3, eq3, he3, -⟩ := hP.open
    obtain ⟨k4, n4, s4, l4, t4, b4, z4, x4, c4, y4, ys4, eq4, he4, -⟩ := hQ.open
    rw [he3] at hLx hA1 hrr
    rw [he4] at hLy hA2
    rw [he3, he4]
    simp only [PV.cells]
    repeat' ((conv => whnf) ; first | refine VIf.tt rfl ?_ | refine VIf.ff rfl ?_ | refine VIf.not ?_ | refine VIf.dtt (by assumption) ?_ | refine VIf.dff (by assumption) ?_ | refine VIf.dec (fun h => ?_) (fun h => ?_) | refine VIf.tt (by assumption) ?_ | refine VIf.ff (by assumption) ?_ | refine VIf.mk (fun h => ?_) (fun h => ?_) | refine VOk.mk rfl ?_ | refine VPur.mk rfl ?_ | refine VNat.mk _ rfl ?_ | refine VArith.fits (by unfold i64; omega) ?_ | refine vret_pf rfl ?_ | refine vret_take rfl rfl ?_ | refine vcall_pf hLx rfl rfl ?_ | refine vcall_pf hLy rfl rfl ?_ | refine vcall_pf nat_read rfl rfl ?_ | refine finds_pf nat_read (fun _ => ?_) | refine vcall_hand rfl rfl hA1 rfl ?_ | refine vcall_hand rfl rfl hA2 rfl ?_ | refine vcall_pf hrr rfl rfl ?_ | refine vcall_made rfl (finds_tree ⟨rfl, ?_⟩) | refine finds_tree ?_ | refine VPur.made rfl ?_ | refine vback rfl ?_ | refine VTch.mk _ rfl ?_)
    all_goals (try (conv => whnf))
    · exact VAgain.mk _ rfl _ (gc_take rfl rfl rfl) ⟨i + 1, by omega, by omega, by dsimp only; rw [e1, e2]; rfl⟩
    · rfl
    · exfalso
      omega
end Go.Proofs.YtehhihdahalfeaaGreatDoor

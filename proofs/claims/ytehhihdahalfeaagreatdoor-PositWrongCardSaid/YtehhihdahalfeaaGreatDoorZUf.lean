/-
  Which constants stand in a term; the constants of locals (package tele). No statement of the seat.
-/
import Derived.Test.YtehhihdahalfeaaGreatDoorZUe
import Derived.Test.YtehhihdahalfeaaGreatDoorZUb
set_option linter.unusedVariables false
set_option linter.unusedSimpArgs false
set_option linter.unnecessarySimpa false
namespace Go.Proofs.YtehhihdahalfeaaGreatDoor
open Go Go.Am Go.Gw
theorem encSs_open (l : List (List UInt8)) : ∃ b z, encSs l = .sl b z (svs l) ∧ (z = 1 ∨ l = []) := by
  cases l with
  | nil => exact ⟨_, _, rfl, .inr rfl⟩
  | cons d r => exact ⟨_, _, rfl, .inl rfl⟩
theorem ConstsF_len (t : Tm) : (ConstsF t).length ≤ 2000 := by
  unfold ConstsF
  split
  · rename_i h
    unfold nameSortF
    refine Nat.le_trans (compS_length _) ?_
    rw [sortS_length]
    exact Nat.le_trans (consts_len t) (any_siz h)
  · simp
set_option maxRecDepth 100000 in
theorem ContainsS_can (s : List UInt8) (ns : List (List UInt8)) (b : Bool) (z : Nat) (hz : z = 1 ∨ ns = []) (hbd : ns.length ≤ 8796093022208) : Pf C1 48 [.sl b z (svs ns), sv s] [bv (decide (s ∈ ns))] := by
  have hi := idxS_can s ns b z hz hbd
  have e := findS_mem s ns 0
  refine run_intro Tryz.func48 rfl rfl rfl ?_
  repeat' ((conv => whnf) ; first | refine VIf.tt rfl ?_ | refine VIf.ff rfl ?_ | refine VIf.not ?_ | refine VIf.dtt (by assumption) ?_ | refine VIf.dff (by assumption) ?_ | refine VIf.dec (fun h => ?_) (fun h => ?_) | refine VIf.tt (by assumption) ?_ | refine VIf.ff (by assumption) ?_ | refine VIf.mk (fun h => ?_) (fun h => ?_) | refine VOk.mk rfl ?_ | refine VPur.mk rfl ?_ | refine VNat.mk _ rfl ?_ | refine VArith.fits (by unfold i64; omega) ?_ | refine vret_pf rfl ?_ | refine vret_take rfl rfl ?_ | refine vcall_pf hi rfl rfl ?_ | refine VTch.mk _ rfl ?_)
  all_goals (try (conv => whnf))
  rw [← e]
set_option maxRecDepth 100000 in
theorem Occurs_can (t : Tm) (v : PV) (h : TmP t v) (s : List UInt8) : Pf C1 17 [v, sv s] [bv (decide (s ∈ ConstsF t))] := by
  have hc := Consts_can t v h
  have hl := ConstsF_len t
  obtain ⟨b1, z1, he, hz1⟩ := encSs_open (ConstsF t)
  have hk := ContainsS_can s (ConstsF t) b1 z1 hz1 (by omega)
  rw [he] at hc
  obtain ⟨k, n, s0, ls, ts, b, z, xs, c, y, ys, rfl, rfl, -⟩ := h.open
  refine run_intro Tryz.func17 rfl rfl rfl ?_
  repeat' ((conv => whnf) ; first | refine VIf.tt rfl ?_ | refine VIf.ff rfl ?_ | refine VIf.not ?_ | refine VIf.dtt (by assumption) ?_ | refine VIf.dff (by assumption) ?_ | refine VIf.dec (fun h => ?_) (fun h => ?_) | refine VIf.tt (by assumption) ?_ | refine VIf.ff (by assumption) ?_ | refine VIf.mk (fun h => ?_) (fun h => ?_) | refine VOk.mk rfl ?_ | refine VPur.mk rfl ?_ | refine VNat.mk _ rfl ?_ | refine VArith.fits (by unfold i64; omega) ?_ | refine vret_pf rfl ?_ | refine vret_take rfl rfl ?_ | refine vcall_pf hc rfl rfl ?_ | refine vcall_pf hk rfl rfl ?_ | refine VTch.mk _ rfl ?_)
  all_goals (try (conv => whnf))
  rfl
/- locals -/
def LoP (x : List UInt8 × Tm) (v : PV) : Prop := ∃ cs, v = .ag (sv x.1 :: cs) ∧ TmP x.2 (.ag cs) ∧ x.1.length ≤ 140737488355328
def LosP : List (List UInt8 × Tm) → List PV → Prop
  | [], xs => xs = []
  | l :: r, xs => ∃ v xs', xs = v :: xs' ∧ LoP l v ∧ LosP r xs'
theorem LosP.len : ∀ {ls : List (List UInt8 × Tm)} {xs : List PV}, LosP ls xs → xs.length = ls.length
  | [], xs, h => by simp only [LosP] at h; simp [h]
  | l :: r, xs, h => by
    simp only [LosP] at h
    obtain ⟨v, xs', rfl, _, h⟩ := h
    simp [LosP.len h]
theorem LosP.at : ∀ {ls : List (List UInt8 × Tm)} {xs : List PV} {i : Nat} {l : List UInt8 × Tm}, LosP ls xs → ls[i]? = some l → ∃ v, xs[i]? = some v ∧ LoP l v
  | [], xs, i, l, _, h => by simp at h
  | x :: r, xs, i, l, h, e => by
    simp only [LosP] at h
    obtain ⟨v, xs', rfl, h1, h2⟩ := h
    cases i with
    | zero => simp at e; subst e; exact ⟨v, rfl, h1⟩
    | succ i => simpa using LosP.at h2 (by simpa using e)
theorem LoP.open {x : List UInt8 × Tm} {v : PV} (h : LoP x v) : ∃ s k n s1 b z xs c y ys t, x = (s, t) ∧ v = .ag [sv s, iv k, iv n, sv s1, .sl b z xs, .sl c y ys] ∧ TmP t (.ag [iv k, iv n, sv s1, .sl b z xs, .sl c y ys]) ∧ s.length ≤ 140737488355328 := by
  obtain ⟨s, t⟩ := x
  obtain ⟨cs, rfl, h1, h2⟩ := h
  obtain ⟨k, n, s0, ls, ts, b, z, xs, c, y, ys, -, e, -⟩ := h1.open
  cases e
  exact ⟨s, _, _, _, _, _, _, _, _, _, t, rfl, rfl, h1, h2⟩
theorem encT_cn (s : List UInt8) : encT (cn s) = .ag [iv 3, iv 0, sv s, .sl true 0 [], .sl true 0 []] := by
  rw [cn, encT_mk]
  rfl
set_option maxRecDepth 100000 in
theorem teleConsts_can (ls : List (List UInt8 × Tm)) (b : Bool) (z : Nat) (xs : List PV) (hz : z = 6 ∨ xs = []) (hxs : LosP ls xs) (hbd : ls.length ≤ 1000000000) : Pf C1 39 [.sl b z xs] [encTv (ls.map fun x => cn x.1)] := by
  have hlen := hxs.len
  refine run_intro Tryz.func39 rfl rfl rfl ?_
  repeat' ((conv => whnf) ; first | refine VIf.tt rfl ?_ | refine VIf.ff rfl ?_ | refine VIf.not ?_ | refine VIf.dtt (by assumption) ?_ | refine VIf.dff (by assumption) ?_ | refine VIf.dec (fun h => ?_) (fun h => ?_) | refine VIf.tt (by assumption) ?_ | refine VIf.ff (by assumption) ?_ | refine VIf.mk (fun h => ?_) (fun h => ?_) | refine VOk.mk rfl ?_ | refine VPur.mk rfl ?_ | refine VNat.mk _ rfl ?_ | refine VArith.fits (by unfold i64; omega) ?_ | refine vret_pf rfl ?_ | refine vret_take rfl rfl ?_ | refine VTch.mk _ rfl ?_)
  all_goals (try (conv => whnf))
  refine loop_over (G := Nat) (fun i => [(8, iv i), (3, match i with
      | 0 => .sl true 0 []
      | n + 1 => .ms 1 (n + 1))]) (fun i => match i with
      | 0 => []
      | n + 1 => [.dead, .row false 25 5 ((ls.take (n + 1)).map fun x => encT (cn x.1))]) (fun i => i ≤ ls.length) (fun i => ls.length - i) 0 (by omega) rfl rfl ?_
  intro i hi
  have hpu : ∀ (l : List (List UInt8 × Tm)) (n : Nat), (l.map fun x => encT (cn x.1)).all (pur (n + 2)) = true := fun l n => by
    rw [List.all_eq_true]
    intro x hx
    obtain ⟨l, _, rfl⟩ := List.mem_map.1 hx
    exact encT_pure _ n
  have hround : ∀ (hi' : i < ls.length), ∃ lc, ls[i]? = some lc ∧ ∃ v, xs[i]? = some v ∧ LoP lc v := fun hi' => by
    obtain ⟨lc, hlc⟩ : ∃ lc, ls[i]? = some lc := ⟨_, List.getElem?_eq_getElem hi'⟩
    obtain ⟨v, hv, hl⟩ := hxs.at hlc
    exact ⟨lc, hlc, v, hv, hl⟩
  cases i with
  | zero =>
    repeat' ((conv => whnf) ; first | refine VIf.tt rfl ?_ | refine VIf.ff rfl ?_ | refine VIf.not ?_ | refine VIf.dtt (by assumption) ?_ | refine VIf.dff (by assumption) ?_ | refine VIf.dec (fun h => ?_) (fun h => ?_) | refine VIf.tt (by assumption) ?_ | refine VIf.ff (by assumption) ?_ | refine VIf.mk (fun h => ?_) (fun h => ?_) | refine VOk.mk rfl ?_ | refine VPur.mk rfl ?_ | refine VNat.mk _ rfl ?_ | refine VArith.fits (by unfold i64; omega) ?_ | refine vret_pf rfl ?_ | refine vret_take rfl rfl ?_ | refine VTch.mk _ rfl ?_)
    all_goals (try (conv => whnf))
    · obtain ⟨lc, hlc, v, hv, hl⟩ := hround (by omega)
      obtain ⟨s, k1, n1, s1, b1, z1, x1, c1, y1, ys1, t1, rfl, rfl, -⟩ := hl.open
      have hcn := Const_can s true 0
      rw [show Tm.mk 3 0 s [] [] = cn s from rfl, encT_cn] at hcn
      repeat' ((conv => whnf) ; first | refine VIf.tt rfl ?_ | refine VIf.ff rfl ?_ | refine VIf.not ?_ | refine VIf.dtt (by assumption) ?_ | refine VIf.dff (by assumption) ?_ | refine VIf.dec (fun h => ?_) (fun h => ?_) | refine VIf.tt (by assumption) ?_ | refine VIf.ff (by assumption) ?_ | refine VIf.mk (fun h => ?_) (fun h => ?_) | refine VOk.mk rfl ?_ | refine VPur.mk rfl ?_ | refine VNat.mk _ rfl ?_ | refine VArith.fits (by unfold i64; omega) ?_ | refine vret_pf rfl ?_ | refine vret_take rfl rfl ?_ | refine VIdx.mk _ hv ?_ | refine VOk.mk (szOk_of rfl hz) ?_ | refine vcall_pf hcn rfl rfl ?_ | refine VTch.mk _ rfl ?_)
      all_goals (try (conv => whnf))
      have e : (ls.take (0 + 1)).map (fun x : List UInt8 × Tm => encT (cn x.1)) = [.ag [iv 3, iv 0, sv s, .sl true 0 [], .sl true 0 []]] := by rw [take_snoc' hlc, ← encT_cn]; rfl
      exact VAgain.mk _ rfl _ (gc_sh (.cons (sh_box rfl rfl) (.cons (sh_row rfl) .nil)) (.cons sh_dead (.cons (sh_row rfl) .nil)) rfl rfl rfl rfl rfl) ⟨1, by omega, by omega, congrArg (fun t => (⟨_, [.dead, .row false _ 5 t]⟩ : AS)) e.symm⟩
    · obtain rfl : ls = [] := List.eq_nil_of_length_eq_zero (by omega)
      rfl
  | succ i =>
    have hln : ((ls.take (i + 1)).map fun x => encT (cn x.1)).length = i + 1 := by simp; omega
    repeat' ((conv => whnf) ; first | refine VIf.tt rfl ?_ | refine VIf.ff rfl ?_ | refine VIf.not ?_ | refine VIf.dtt (by assumption) ?_ | refine VIf.dff (by assumption) ?_ | refine VIf.dec (fun h => ?_) (fun h => ?_) | refine VIf.tt (by assumption) ?_ | refine VIf.ff (by assumption) ?_ | refine VIf.mk (fun h => ?_) (fun h => ?_) | refine VOk.mk rfl ?_ | refine VPur.mk rfl ?_ | refine VNat.mk _ rfl ?_ | refine VArith.fits (by unfold i64; omega) ?_ | refine vret_pf rfl ?_ | refine vret_take rfl rfl ?_ | refine VTch.mk _ rfl ?_)
    all_goals (try (conv => whnf))
    · obtain ⟨lc, hlc, v, hv, hl⟩ := hround (by omega)
      obtain ⟨s, k1, n1, s1, b1, z1, x1, c1, y1, ys1, t1, rfl, rfl, -⟩ := hl.open
      have hcn := Const_can s true 0
      rw [show Tm.mk 3 0 s [] [] = cn s from rfl, encT_cn] at hcn
      have e : (ls.take (i + 1 + 1)).map (fun x : List UInt8 × Tm => encT (cn x.1)) = (ls.take (i + 1)).map (fun x : List UInt8 × Tm => encT (cn x.1)) ++ [.ag [iv 3, iv 0, sv s, .sl true 0 [], .sl true 0 []]] := by rw [take_snoc' hlc, ← encT_cn]; simp
      have hp8 : ((ls.take (i + 1)).map (fun x : List UInt8 × Tm => encT (cn x.1)) ++ [PV.ag [iv 3, iv 0, sv s, .sl true 0 [], .sl true 0 []]]).all (pur 8) = true := e ▸ hpu _ 6
      repeat' ((conv => whnf) ; first | refine VIf.tt rfl ?_ | refine VIf.ff rfl ?_ | refine VIf.not ?_ | refine VIf.dtt (by assumption) ?_ | refine VIf.dff (by assumption) ?_ | refine VIf.dec (fun h => ?_) (fun h => ?_) | refine VIf.tt (by assumption) ?_ | refine VIf.ff (by assumption) ?_ | refine VIf.mk (fun h => ?_) (fun h => ?_) | refine VOk.mk rfl ?_ | refine VPur.mk rfl ?_ | refine VNat.mk _ rfl ?_ | refine VArith.fits (by unfold i64; omega) ?_ | refine vret_pf rfl ?_ | refine vret_take rfl rfl ?_ | refine VIdx.mk _ hv ?_ | refine VOk.mk (szOk_of rfl hz) ?_ | refine vcall_pf hcn rfl rfl ?_ | refine VOk.mk (grow_ok (w := 80) (r := 140737488355328) hln rfl rfl rfl rfl (by simp only [List.length_cons, List.length_nil]; omega) (by simp only [List.length_cons, List.length_nil]; omega)) ?_ | refine VTch.mk _ rfl ?_)
      all_goals (try (conv => whnf))
      exact VAgain.mk _ rfl _ (gc_sh (.cons sh_dead (.cons (sh_row hp8) (.cons (sh_box rfl rfl) .nil))) (.cons sh_dead (.cons (sh_row hp8) .nil)) rfl rfl rfl rfl rfl) ⟨i + 1 + 1, by omega, by omega, congrArg (fun t => (⟨_, [.dead, .row false _ 5 t]⟩ : AS)) e.symm⟩
    · have hi' : i + 1 = ls.length := by omega
      have e : (ls.take (i + 1)).map (fun x : List UInt8 × Tm => encT (cn x.1)) = ls.map (fun x : List UInt8 × Tm => encT (cn x.1)) := by rw [hi', List.take_length]
      refine vret_row rfl rfl hln.symm (hpu _ 4) ?_
      rw [encTv_pos (by simp; omega), e, List.map_map]
      rfl
end Go.Proofs.YtehhihdahalfeaaGreatDoor

/-
  Constants that are made variables: what stands in a leaf's place. No statement of the seat.
-/
import Derived.Test.YtehhihdahalfeaaGreatDoorZUa
import Derived.Test.YtehhihdahalfeaaGreatDoorZUd
set_option linter.unusedVariables false
set_option linter.unusedSimpArgs false
set_option linter.unnecessarySimpa false
namespace Go.Proofs.YtehhihdahalfeaaGreatDoor
open Go Go.Am Go.Gw
/- where a text stands among texts -/
def findS (s : List UInt8) : List (List UInt8) → Nat → Int
  | [], _ => -1
  | c :: r, i => if s = c then i else findS s r (i + 1)
theorem findS_bd (s : List UInt8) : ∀ (ns : List (List UInt8)) (i : Nat), -1 ≤ findS s ns i ∧ findS s ns i < (i + ns.length : Nat) + 1 ∧ (0 ≤ findS s ns i → findS s ns i < (i + ns.length : Nat))
  | [], i => by simp only [findS, List.length_nil]; omega
  | c :: r, i => by
    rw [findS, List.length_cons]
    split
    · omega
    · have := findS_bd s r (i + 1)
      omega
theorem findS_mem (s : List UInt8) : ∀ (ns : List (List UInt8)) (i : Nat), decide (0 ≤ findS s ns i) = decide (s ∈ ns)
  | [], i => by simp [findS]
  | c :: r, i => by
    rw [findS]
    by_cases h : s = c
    · rw [if_pos h]
      simp [h]
    · rw [if_neg h, findS_mem s r (i + 1)]
      simp [h]
set_option maxRecDepth 100000 in
theorem idxS_can (s : List UInt8) (ns : List (List UInt8)) (b : Bool) (z : Nat) (hz : z = 1 ∨ ns = []) (hbd : ns.length ≤ 8796093022208) : Pf C1 88 [.sl b z (svs ns), sv s] [iv (findS s ns 0)] := by
  have hln : (svs ns).length = ns.length := by simp
  refine run_intro Tryz.func88 rfl rfl rfl ?_
  repeat' ((conv => whnf) ; first | refine VIf.tt rfl ?_ | refine VIf.ff rfl ?_ | refine VIf.not ?_ | refine VIf.dtt (by assumption) ?_ | refine VIf.dff (by assumption) ?_ | refine VIf.dec (fun h => ?_) (fun h => ?_) | refine VIf.tt (by assumption) ?_ | refine VIf.ff (by assumption) ?_ | refine VIf.mk (fun h => ?_) (fun h => ?_) | refine VOk.mk rfl ?_ | refine VPur.mk rfl ?_ | refine VNat.mk _ rfl ?_ | refine VArith.fits (by unfold i64; omega) ?_ | refine vret_pf rfl ?_ | refine vret_take rfl rfl ?_ | refine VTch.mk _ rfl ?_)
  all_goals (try (conv => whnf))
  refine loop_over (G := Nat) (fun i => [(8, iv i)]) (fun _ => _) (fun i => i ≤ ns.length ∧ findS s (ns.drop i) i = findS s ns 0) (fun i => ns.length - i) 0 ⟨by omega, rfl⟩ rfl rfl ?_
  rintro i ⟨hi, hall⟩
  dsimp only at hi hall ⊢
  repeat' ((conv => whnf) ; first | refine VIf.tt rfl ?_ | refine VIf.ff rfl ?_ | refine VIf.not ?_ | refine VIf.dtt (by assumption) ?_ | refine VIf.dff (by assumption) ?_ | refine VIf.dec (fun h => ?_) (fun h => ?_) | refine VIf.tt (by assumption) ?_ | refine VIf.ff (by assumption) ?_ | refine VIf.mk (fun h => ?_) (fun h => ?_) | refine VOk.mk rfl ?_ | refine VPur.mk rfl ?_ | refine VNat.mk _ rfl ?_ | refine VArith.fits (by unfold i64; omega) ?_ | refine vret_pf rfl ?_ | refine vret_take rfl rfl ?_ | refine VTch.mk _ rfl ?_)
  all_goals (try (conv => whnf))
  · have hi' : i < ns.length := by omega
    obtain ⟨c, hc⟩ : ∃ c, ns[i]? = some c := ⟨_, List.getElem?_eq_getElem hi'⟩
    rw [drop_at hc, findS] at hall
    repeat' ((conv => whnf) ; first | refine VIf.tt rfl ?_ | refine VIf.ff rfl ?_ | refine VIf.not ?_ | refine VIf.dtt (by assumption) ?_ | refine VIf.dff (by assumption) ?_ | refine VIf.dec (fun h => ?_) (fun h => ?_) | refine VIf.tt (by assumption) ?_ | refine VIf.ff (by assumption) ?_ | refine VIf.mk (fun h => ?_) (fun h => ?_) | refine VOk.mk rfl ?_ | refine VPur.mk rfl ?_ | refine VNat.mk _ rfl ?_ | refine VArith.fits (by unfold i64; omega) ?_ | refine vret_pf rfl ?_ | refine vret_take rfl rfl ?_ | refine VIdx.mk _ (svs_at hc) ?_ | refine VOk.mk (szOk_of rfl (svs_nil hz)) ?_ | refine vres_str ?_ | refine VTch.mk _ rfl ?_)
    all_goals (try (conv => whnf))
    · rw [if_pos (by simpa using h)] at hall
      rw [← hall]
    · rw [if_neg (by simpa using h)] at hall
      exact VAgain.mk _ rfl _ (gc_take rfl rfl rfl) ⟨i + 1, ⟨hi', hall⟩, by omega, rfl⟩
  · rw [List.drop_of_length_le (by omega), findS] at hall
    rw [← hall]
def absF (ns : List (List UInt8)) (t : Tm) (d : Int) : Option Tm := if t.kind = 3 ∧ 0 ≤ findS t.name ns 0 then some (.mk 1 ((ns.length : Int) - 1 - findS t.name ns 0 + d) [] [] []) else movF ns.length 0 t d
def absP (b : Bool) (z : Nat) (ns : List (List UInt8)) : PV := .fn 92 [] [.cp [.sl b z (svs ns)], .cp [iv (svs ns).length], .cp [movedP (svs ns).length 0]]
theorem absF_on {ns : List (List UInt8)} {t : Tm} {d : Int} (h : t.kind = 3 ∧ 0 ≤ findS t.name ns 0) : absF ns t d = some (.mk 1 ((ns.length : Int) - 1 - findS t.name ns 0 + d) [] [] []) := if_pos h
theorem absF_off {ns : List (List UInt8)} {t : Tm} {d : Int} (h : ¬ (t.kind = 3 ∧ 0 ≤ findS t.name ns 0)) : absF ns t d = movF ns.length 0 t d := if_neg h
theorem absF_put {ns : List (List UInt8)} (hla : ns.length ≤ 1048576) : PutOk (absF ns) := by
  intro t d x hw ha hd0 hd1 h
  unfold absF at h
  split at h
  · cases h
    have := findS_bd t.name ns 0
    exact tmP_var (by unfold i64; omega)
  · exact movF_put (by omega) t d x hw ha hd0 hd1 h
set_option maxHeartbeats 1000000 in
set_option maxRecDepth 100000 in
theorem abs1_can (ns : List (List UInt8)) (b : Bool) (z : Nat) (hz : z = 1 ∨ ns = []) (hla : ns.length ≤ 1048576) (t : Tm) (v : PV) (h : TmP t v) (d : Int) (hd0 : 0 ≤ d) (hd1 : d ≤ 4194304) (h1 : 0 ≤ t.num ∧ t.num ≤ 2251799813685248) :
    Pf C1 92 [v, iv d, .cp [.sl b z (svs ns)], .cp [iv (svs ns).length], .cp [movedP (svs ns).length 0]] (putV (absF ns t d)) := by
  have hln : (svs ns).length = ns.length := by simp
  have hix := idxS_can t.name ns b z hz (by omega)
  have hfb := findS_bd t.name ns 0
  have hv := Var_can ((svs ns).length - 1 - findS t.name ns 0 + d)
  have hm := moved1_can (svs ns).length 0 t v h d (by unfold i64; omega) (fun _ => by unfold i64; omega)
  have hon : t.kind = 3 ∧ 0 ≤ findS t.name ns 0 → absF ns t d = some (.mk 1 ((svs ns).length - 1 - findS t.name ns 0 + d) [] [] []) := fun e => by rw [absF_on e, hln]
  have hoff : ¬ (t.kind = 3 ∧ 0 ≤ findS t.name ns 0) → absF ns t d = movF (svs ns).length 0 t d := fun e => by rw [absF_off e, hln]
  obtain ⟨k, n, s, ls, ts, b0, z0, xs0, c0, y0, ys0, rfl, rfl, -⟩ := h.open
  simp only [Tm.num, Tm.kind, Tm.name] at h1 hix hfb hv hon hoff
  refine run_intro Tryz.func92 rfl rfl rfl ?_
  cases hmv : movF (svs ns).length 0 (.mk k n s ls ts) d with
  | none =>
    rw [hmv] at hm hoff
    simp only [putV] at hm
    repeat' ((conv => whnf) ; first | refine VIf.tt rfl ?_ | refine VIf.ff rfl ?_ | refine VIf.not ?_ | refine VIf.dtt (by assumption) ?_ | refine VIf.dff (by assumption) ?_ | refine VIf.dec (fun h => ?_) (fun h => ?_) | refine VIf.tt (by assumption) ?_ | refine VIf.ff (by assumption) ?_ | refine VIf.mk (fun h => ?_) (fun h => ?_) | refine VOk.mk rfl ?_ | refine VPur.mk rfl ?_ | refine VNat.mk _ rfl ?_ | refine VArith.fits (by unfold i64; omega) ?_ | refine vret_pf rfl ?_ | refine vret_take rfl rfl ?_ | refine vcall_pf hix rfl rfl ?_ | refine vcall_pf hv rfl rfl ?_ | refine vcall_pf hm rfl rfl ?_ | refine VTch.mk _ rfl ?_)
    all_goals (try (conv => whnf))
    · rw [hon (by omega)]
      rfl
    · rw [hoff (by omega)]
      rfl
    · rw [hoff (by omega)]
      rfl
  | some x =>
    rw [hmv] at hm hoff
    simp only [putV] at hm
    obtain ⟨k8, n8, s8, b8, z8, x8, c8, y8, ys8, he8⟩ := encT_open x
    rw [he8] at hm
    repeat' ((conv => whnf) ; first | refine VIf.tt rfl ?_ | refine VIf.ff rfl ?_ | refine VIf.not ?_ | refine VIf.dtt (by assumption) ?_ | refine VIf.dff (by assumption) ?_ | refine VIf.dec (fun h => ?_) (fun h => ?_) | refine VIf.tt (by assumption) ?_ | refine VIf.ff (by assumption) ?_ | refine VIf.mk (fun h => ?_) (fun h => ?_) | refine VOk.mk rfl ?_ | refine VPur.mk rfl ?_ | refine VNat.mk _ rfl ?_ | refine VArith.fits (by unfold i64; omega) ?_ | refine vret_pf rfl ?_ | refine vret_take rfl rfl ?_ | refine vcall_pf hix rfl rfl ?_ | refine vcall_pf hv rfl rfl ?_ | refine vcall_pf hm rfl rfl ?_ | refine VTch.mk _ rfl ?_)
    all_goals (try (conv => whnf))
    · rw [hon (by omega)]
      rfl
    · rw [hoff (by omega)]
      simp only [putV]
      rw [he8]
      rfl
    · rw [hoff (by omega)]
      simp only [putV]
      rw [he8]
      rfl
end Go.Proofs.YtehhihdahalfeaaGreatDoor

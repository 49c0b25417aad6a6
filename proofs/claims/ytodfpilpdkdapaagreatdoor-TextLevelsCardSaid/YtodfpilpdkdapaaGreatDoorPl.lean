/-
  What package level finds. No statement of the seat.
-/
import Derived.Test.YtodfpilpdkdapaaGreatDoorPe
namespace Go.Proofs.YtodfpilpdkdapaaGreatDoor
open Go Go.Am Go.Gw

theorem wide_can (k : Int) : Pf C1 61 [iv k] [iv (wideF k)] := by
  refine run_intro Tryz.func61 rfl rfl rfl ?_
  repeat' (conv => whnf
           first
           | refine VIf.tt rfl ?_
           | refine VIf.ff rfl ?_
           | refine VIf.not ?_
           | refine VIf.dtt (by assumption) ?_
           | refine VIf.dff (by assumption) ?_
           | refine VIf.dec (fun h => ?_) (fun h => ?_)
           | refine VIf.tt (by assumption) ?_
           | refine VIf.ff (by assumption) ?_
           | refine VIf.mk (fun h => ?_) (fun h => ?_)
           | refine VOk.mk rfl ?_
           | refine VNat.mk _ rfl ?_
           | refine VArith.fits (by unfold i64; omega) ?_
           | refine vret_pf rfl ?_
           | refine vret_take rfl rfl ?_)
  all_goals (try (conv => whnf))
  all_goals simp_all [wideF]
set_option maxRecDepth 100000 in
theorem node_can (l : Lv) (v : PV) (h : LvP l v) (n : Int) : Pf C1 45 [v, iv n] [bv (nodeF l n)] := by
  obtain ⟨k, nn, ls, b, z, xs, rfl, rfl, hz, hxs, hlen, hbd⟩ := h.open
  refine run_intro Tryz.func45 rfl rfl rfl ?_
  repeat' (conv => whnf
           first
           | refine VIf.tt rfl ?_
           | refine VIf.ff rfl ?_
           | refine VIf.not ?_
           | refine VIf.dtt (by assumption) ?_
           | refine VIf.dff (by assumption) ?_
           | refine VIf.dec (fun h => ?_) (fun h => ?_)
           | refine VIf.tt (by assumption) ?_
           | refine VIf.ff (by assumption) ?_
           | refine VIf.mk (fun h => ?_) (fun h => ?_)
           | refine VOk.mk rfl ?_
           | refine VNat.mk _ rfl ?_
           | refine VArith.fits (by unfold i64; omega) ?_
           | refine vret_pf rfl ?_
           | refine vret_take rfl rfl ?_
           | refine finds_pf (wide_can _) (fun _ => ?_))
  all_goals (try (conv => whnf))
  all_goals simp_all [wideF, nodeF]
  all_goals omega
set_option maxRecDepth 100000 in
theorem all_can (l : Lv) : ∀ v, LvP l v → ∀ n, Pf C1 20 [v, iv n] [bv (allF l n)] := by
  induction l using Lv.ind with
  | _ k nn ls ih =>
  intro v h n
  have hnode := node_can _ _ h n
  obtain ⟨_, _, _, b, z, xs, ⟨rfl, rfl, rfl⟩, rfl, hz, hxs, hlen, hbd⟩ := h.open
  refine run_intro Tryz.func20 rfl rfl rfl ?_
  repeat' (conv => whnf
           first
           | refine VIf.tt rfl ?_
           | refine VIf.ff rfl ?_
           | refine VIf.not ?_
           | refine VIf.dtt (by assumption) ?_
           | refine VIf.dff (by assumption) ?_
           | refine VIf.dec (fun h => ?_) (fun h => ?_)
           | refine VIf.tt (by assumption) ?_
           | refine VIf.ff (by assumption) ?_
           | refine VIf.mk (fun h => ?_) (fun h => ?_)
           | refine VOk.mk rfl ?_
           | refine VNat.mk _ rfl ?_
           | refine VArith.fits (by unfold i64; omega) ?_
           | refine vret_pf rfl ?_
           | refine vret_take rfl rfl ?_
           | refine vcall_pf hnode rfl rfl ?_)
  all_goals (try (conv => whnf))
  · refine loop_over (G := Nat) (fun i => [(14, iv i)]) (fun _ => _) (fun i => i ≤ ls.length ∧ allFs (ls.drop i) n = allFs ls n) (fun i => ls.length - i) 0 ⟨by omega, rfl⟩ rfl rfl ?_
    rintro i ⟨hi, hall⟩
    repeat' (conv => whnf
             first
             | refine VIf.tt rfl ?_
             | refine VIf.ff rfl ?_
             | refine VIf.not ?_
             | refine VIf.dtt (by assumption) ?_
             | refine VIf.dff (by assumption) ?_
             | refine VIf.dec (fun h => ?_) (fun h => ?_)
             | refine VIf.tt (by assumption) ?_
             | refine VIf.ff (by assumption) ?_
             | refine VIf.mk (fun h => ?_) (fun h => ?_)
             | refine VOk.mk rfl ?_
             | refine VNat.mk _ rfl ?_
             | refine VArith.fits (by unfold i64; omega) ?_
             | refine vret_pf rfl ?_
             | refine vret_take rfl rfl ?_)
    all_goals (try (conv => whnf))
    · have hi' : i < ls.length := by omega
      obtain ⟨lc, hlc⟩ : ∃ lc, ls[i]? = some lc := ⟨_, List.getElem?_eq_getElem hi'⟩
      obtain ⟨v, hv, hl⟩ := hxs.at hlc
      have hrec := ih _ (List.mem_of_getElem? hlc) _ hl n
      obtain ⟨k1, n1, l1, b1, z1, x1, rfl, rfl, hz1, hxs1, hlen1, hbd1⟩ := hl.open
      refine VIdx.mk _ hv (VOk.mk (szOk_of rfl hz) ?_)
      repeat' (conv => whnf
               first
               | refine VIf.tt rfl ?_
               | refine VIf.ff rfl ?_
               | refine VIf.not ?_
               | refine VIf.dtt (by assumption) ?_
               | refine VIf.dff (by assumption) ?_
               | refine VIf.dec (fun h => ?_) (fun h => ?_)
               | refine VIf.tt (by assumption) ?_
               | refine VIf.ff (by assumption) ?_
               | refine VIf.mk (fun h => ?_) (fun h => ?_)
               | refine VOk.mk rfl ?_
               | refine VNat.mk _ rfl ?_
               | refine VArith.fits (by unfold i64; omega) ?_
               | refine vret_pf rfl ?_
               | refine vret_take rfl rfl ?_
               | refine vcall_pf hrec rfl rfl ?_)
      all_goals (try (conv => whnf))
      · refine VAgain.mk _ rfl _ (gc_take rfl rfl rfl) ⟨i + 1, ⟨hi', ?_⟩, by omega, rfl⟩
        rw [← hall, drop_at hlc]
        simp [allFs, h]
      · rw [drop_at hlc] at hall
        simp only [allFs] at hall
        have : allFs ls n = false := by rw [← hall]; simp [h]
        simp [allF, this]
    · have : i = ls.length := by omega
      subst this
      rw [List.drop_length] at hall
      simp_all [allF, allFs]
  · simp_all [allF]

set_option maxRecDepth 100000 in
theorem count_can (l : Lv) : ∀ v, LvP l v → ∀ (left : Int), 0 ≤ left → left ≤ 1000000 → Finds C1 44 [v, .bp 0 0] [.box 3 [iv left]] fun r st => r = .ret [] ∧ st = [.box 3 [iv (countF l left)]] := by
  induction l using Lv.ind with
  | _ k nn ls ih =>
  intro v h left h0 h1
  obtain ⟨_, _, _, b, z, xs, ⟨rfl, rfl, rfl⟩, rfl, hz, hxs, hlen, hbd⟩ := h.open
  refine run_intro Tryz.func44 rfl rfl rfl ?_
  repeat' (conv => whnf
           first
           | refine VIf.tt rfl ?_
           | refine VIf.ff rfl ?_
           | refine VIf.not ?_
           | refine VIf.dtt (by assumption) ?_
           | refine VIf.dff (by assumption) ?_
           | refine VIf.dec (fun h => ?_) (fun h => ?_)
           | refine VIf.tt (by assumption) ?_
           | refine VIf.ff (by assumption) ?_
           | refine VIf.mk (fun h => ?_) (fun h => ?_)
           | refine VOk.mk rfl ?_
           | refine VNat.mk _ rfl ?_
           | refine VArith.fits (by unfold i64; omega) ?_
           | refine vret_pf rfl ?_
           | refine vret_take rfl rfl ?_)
  all_goals (try (conv => whnf))
  refine loop_over (G := Nat × Int) (fun g => [(14, iv g.1)]) (fun g => [.box 3 [iv g.2], _]) (fun g => g.1 ≤ ls.length ∧ -1 ≤ g.2 ∧ g.2 ≤ 1000000 ∧ countFs (ls.drop g.1) g.2 = countFs ls (left - 1)) (fun g => ls.length - g.1) (0, left - 1) ⟨by omega, by dsimp only; omega, by dsimp only; omega, rfl⟩ rfl rfl ?_
  rintro ⟨i, lf⟩ ⟨hi, hlf0, hlf1, hall⟩
  dsimp only at hi hlf0 hlf1 hall ⊢
  repeat' (conv => whnf
           first
           | refine VIf.tt rfl ?_
           | refine VIf.ff rfl ?_
           | refine VIf.not ?_
           | refine VIf.dtt (by assumption) ?_
           | refine VIf.dff (by assumption) ?_
           | refine VIf.dec (fun h => ?_) (fun h => ?_)
           | refine VIf.tt (by assumption) ?_
           | refine VIf.ff (by assumption) ?_
           | refine VIf.mk (fun h => ?_) (fun h => ?_)
           | refine VOk.mk rfl ?_
           | refine VNat.mk _ rfl ?_
           | refine VArith.fits (by unfold i64; omega) ?_
           | refine vret_pf rfl ?_
           | refine vret_take rfl rfl ?_)
  all_goals (try (conv => whnf))
  · have hi' : i < ls.length := by omega
    obtain ⟨lc, hlc⟩ : ∃ lc, ls[i]? = some lc := ⟨_, List.getElem?_eq_getElem hi'⟩
    obtain ⟨v, hv, hl⟩ := hxs.at hlc
    obtain ⟨k1, n1, l1, b1, z1, x1, rfl, rfl, hz1, hxs1, hlen1, hbd1⟩ := hl.open
    refine VIdx.mk _ hv (VOk.mk (szOk_of rfl hz) ?_)
    repeat' (conv => whnf
             first
             | refine VIf.tt rfl ?_
             | refine VIf.ff rfl ?_
             | refine VIf.not ?_
             | refine VIf.dtt (by assumption) ?_
             | refine VIf.dff (by assumption) ?_
             | refine VIf.dec (fun h => ?_) (fun h => ?_)
             | refine VIf.tt (by assumption) ?_
             | refine VIf.ff (by assumption) ?_
             | refine VIf.mk (fun h => ?_) (fun h => ?_)
             | refine VOk.mk rfl ?_
             | refine VNat.mk _ rfl ?_
             | refine VArith.fits (by unfold i64; omega) ?_
             | refine vret_pf rfl ?_
             | refine vret_take rfl rfl ?_)
    all_goals (try (conv => whnf))
    · have : countF (.mk k nn ls) left = lf := by rw [countF, ← hall, countFs_neg _ _ (by omega)]
      exact ⟨rfl, by rw [this]; rfl⟩
    · refine vcall_st rfl rfl rfl rfl rfl rfl (Finds.mono (ih _ (List.mem_of_getElem? hlc) _ hl lf (by omega) (by omega)) ?_)
      rintro _ _ ⟨rfl, rfl⟩
      refine vback rfl ?_
      repeat' (conv => whnf
               first
               | refine VIf.tt rfl ?_
               | refine VIf.ff rfl ?_
               | refine VIf.not ?_
               | refine VIf.dtt (by assumption) ?_
               | refine VIf.dff (by assumption) ?_
               | refine VIf.dec (fun h => ?_) (fun h => ?_)
               | refine VIf.tt (by assumption) ?_
               | refine VIf.ff (by assumption) ?_
               | refine VIf.mk (fun h => ?_) (fun h => ?_)
               | refine VOk.mk rfl ?_
               | refine VNat.mk _ rfl ?_
               | refine VArith.fits (by unfold i64; omega) ?_
               | refine vret_pf rfl ?_
               | refine vret_take rfl rfl ?_)
      all_goals (try (conv => whnf))
      have hcg := countF_ge (.mk k1 n1 l1) lf (by omega)
      refine VAgain.mk _ rfl _ (gc_take rfl rfl rfl) ⟨(i + 1, countF (.mk k1 n1 l1) lf), ⟨hi', by dsimp only; omega, by dsimp only; omega, ?_⟩, by dsimp only; omega, rfl⟩
      rw [← hall, drop_at hlc, countFs, if_neg (by omega)]
  · have : countF (.mk k nn ls) left = lf := by
      obtain rfl : i = ls.length := by omega
      rw [List.drop_length, countFs] at hall
      rw [countF, ← hall]
    exact ⟨rfl, by rw [this]; rfl⟩
set_option maxRecDepth 100000 in
theorem nodes_can (l : Lv) (v : PV) (h : LvP l v) : Pf C1 19 [v] [iv (nodesF l)] := by
  have h0 := h
  obtain ⟨k, nn, ls, b, z, xs, rfl, rfl, hz, hxs, hlen, hbd⟩ := h.open
  have hcg := countF_ge (.mk k nn ls) 64 (by omega)
  refine run_intro Tryz.func19 rfl rfl rfl ?_
  repeat' (conv => whnf
           first
           | refine VIf.tt rfl ?_
           | refine VIf.ff rfl ?_
           | refine VIf.not ?_
           | refine VIf.dtt (by assumption) ?_
           | refine VIf.dff (by assumption) ?_
           | refine VIf.dec (fun h => ?_) (fun h => ?_)
           | refine VIf.tt (by assumption) ?_
           | refine VIf.ff (by assumption) ?_
           | refine VIf.mk (fun h => ?_) (fun h => ?_)
           | refine VOk.mk rfl ?_
           | refine VNat.mk _ rfl ?_
           | refine VArith.fits (by unfold i64; omega) ?_
           | refine vret_pf rfl ?_
           | refine vret_take rfl rfl ?_)
  all_goals (try (conv => whnf))
  refine vcall_st rfl rfl rfl rfl rfl rfl (Finds.mono (count_can _ _ h0 64 (by omega) (by omega)) ?_)
  rintro _ _ ⟨rfl, rfl⟩
  refine vback rfl ?_
  repeat' (conv => whnf
           first
           | refine VIf.tt rfl ?_
           | refine VIf.ff rfl ?_
           | refine VIf.not ?_
           | refine VIf.dtt (by assumption) ?_
           | refine VIf.dff (by assumption) ?_
           | refine VIf.dec (fun h => ?_) (fun h => ?_)
           | refine VIf.tt (by assumption) ?_
           | refine VIf.ff (by assumption) ?_
           | refine VIf.mk (fun h => ?_) (fun h => ?_)
           | refine VOk.mk rfl ?_
           | refine VNat.mk _ rfl ?_
           | refine VArith.fits (by unfold i64; omega) ?_
           | refine vret_pf rfl ?_
           | refine vret_take rfl rfl ?_)
  all_goals (try (conv => whnf))
  all_goals simp only [nodesF, max_def']
  all_goals simp_all
  all_goals omega
set_option maxRecDepth 100000 in
theorem right_can (l : Lv) (v : PV) (h : LvP l v) (n : Int) : Pf C1 11 [v, iv n] [bv (rightF l n)] := by
  have hn := nodes_can l v h
  have ha := all_can l v h n
  obtain ⟨k, nn, ls, b, z, xs, rfl, rfl, hz, hxs, hlen, hbd⟩ := h.open
  refine run_intro Tryz.func11 rfl rfl rfl ?_
  repeat' (conv => whnf
           first
           | refine VIf.tt rfl ?_
           | refine VIf.ff rfl ?_
           | refine VIf.not ?_
           | refine VIf.dtt (by assumption) ?_
           | refine VIf.dff (by assumption) ?_
           | refine VIf.dec (fun h => ?_) (fun h => ?_)
           | refine VIf.tt (by assumption) ?_
           | refine VIf.ff (by assumption) ?_
           | refine VIf.mk (fun h => ?_) (fun h => ?_)
           | refine VOk.mk rfl ?_
           | refine VNat.mk _ rfl ?_
           | refine VArith.fits (by unfold i64; omega) ?_
           | refine vret_pf rfl ?_
           | refine vret_take rfl rfl ?_
           | refine vcall_pf hn rfl rfl ?_
           | refine vcall_pf ha rfl rfl ?_)
  all_goals (try (conv => whnf))
  all_goals simp_all [rightF, retV]
  all_goals omega
theorem min_def'' (a b : Int) : (if b < a then b else a) = min a b := by
  by_cases h : b < a
  · rw [if_pos h]; omega
  · rw [if_neg h]; omega
theorem nodes_sizeL (l : Lv) : 1 ≤ sizeL l := by cases l; simp [sizeL]
set_option maxRecDepth 100000 in
theorem levelNodes_can (l : Lv) : ∀ v, LvP l v → ∀ (q : Int), 0 ≤ q → q ≤ 1000000 → Pf C1 5 [v, iv q] [iv (lnF l q)] := by
  induction l using Lv.ind with
  | _ k nn ls ih =>
  intro v h q h0 h1
  obtain ⟨_, _, _, b, z, xs, ⟨rfl, rfl, rfl⟩, rfl, hz, hxs, hlen, hbd⟩ := h.open
  refine run_intro Tryz.func5 rfl rfl rfl ?_
  repeat' (conv => whnf
           first
           | refine VIf.tt rfl ?_
           | refine VIf.ff rfl ?_
           | refine VIf.not ?_
           | refine VIf.dtt (by assumption) ?_
           | refine VIf.dff (by assumption) ?_
           | refine VIf.dec (fun h => ?_) (fun h => ?_)
           | refine VIf.tt (by assumption) ?_
           | refine VIf.ff (by assumption) ?_
           | refine VIf.mk (fun h => ?_) (fun h => ?_)
           | refine VOk.mk rfl ?_
           | refine VNat.mk _ rfl ?_
           | refine VArith.fits (by unfold i64; omega) ?_
           | refine vret_pf rfl ?_
           | refine vret_take rfl rfl ?_)
  all_goals (try (conv => whnf))
  refine loop_over (G := Nat × Int) (fun g => [(6, iv g.1), (5, iv g.2)]) (fun g => _) (fun g => g.1 ≤ ls.length ∧ 1 ≤ g.2 ∧ g.2 ≤ 2 * q + 2 ∧ lnFs (ls.drop g.1) g.2 q = lnFs ls 1 q) (fun g => ls.length - g.1) (0, 1) ⟨by omega, by dsimp only; omega, by dsimp only; omega, rfl⟩ rfl rfl ?_
  rintro ⟨i, acc⟩ ⟨hi, ha1, ha2, hacc⟩
  dsimp only at hi ha1 ha2 hacc ⊢
  repeat' (conv => whnf
           first
           | refine VIf.tt rfl ?_
           | refine VIf.ff rfl ?_
           | refine VIf.not ?_
           | refine VIf.dtt (by assumption) ?_
           | refine VIf.dff (by assumption) ?_
           | refine VIf.dec (fun h => ?_) (fun h => ?_)
           | refine VIf.tt (by assumption) ?_
           | refine VIf.ff (by assumption) ?_
           | refine VIf.mk (fun h => ?_) (fun h => ?_)
           | refine VOk.mk rfl ?_
           | refine VNat.mk _ rfl ?_
           | refine VArith.fits (by unfold i64; omega) ?_
           | refine vret_pf rfl ?_
           | refine vret_take rfl rfl ?_)
  all_goals (try (conv => whnf))
  · have hi' : i < ls.length := by omega
    obtain ⟨lc, hlc⟩ : ∃ lc, ls[i]? = some lc := ⟨_, List.getElem?_eq_getElem hi'⟩
    obtain ⟨v, hv, hl⟩ := hxs.at hlc
    have hrec := ih _ (List.mem_of_getElem? hlc) _ hl q h0 h1
    have hx := lnF_eq lc q h0
    have hxp := nodes_sizeL lc
    obtain ⟨k1, n1, l1, b1, z1, x1, rfl, rfl, hz1, hxs1, hlen1, hbd1⟩ := hl.open
    refine VIdx.mk _ hv (VOk.mk (szOk_of rfl hz) ?_)
    repeat' (conv => whnf
             first
             | refine VIf.tt rfl ?_
             | refine VIf.ff rfl ?_
             | refine VIf.not ?_
             | refine VIf.dtt (by assumption) ?_
             | refine VIf.dff (by assumption) ?_
             | refine VIf.dec (fun h => ?_) (fun h => ?_)
             | refine VIf.tt (by assumption) ?_
             | refine VIf.ff (by assumption) ?_
             | refine VIf.mk (fun h => ?_) (fun h => ?_)
             | refine VOk.mk rfl ?_
             | refine VNat.mk _ rfl ?_
             | refine VArith.fits (by unfold i64; omega) ?_
             | refine vret_pf rfl ?_
             | refine vret_take rfl rfl ?_
             | refine vcall_pf hrec rfl rfl ?_)
    all_goals (try (conv => whnf))
    refine VAgain.mk _ rfl _ (gc_take rfl rfl rfl) ⟨(i + 1, acc + lnF (.mk k1 n1 l1) q), ⟨hi', by dsimp only; omega, by dsimp only; omega, ?_⟩, by dsimp only; omega, rfl⟩
    rw [← hacc, drop_at hlc, lnFs, if_pos (by omega)]
  all_goals
    have e : lnFs ls 1 q = acc := by
      rw [← hacc]
      by_cases hil : i < ls.length
      · obtain ⟨lc, hlc⟩ : ∃ lc, ls[i]? = some lc := ⟨_, List.getElem?_eq_getElem hil⟩
        rw [drop_at hlc, lnFs, if_neg (by omega)]
      · rw [List.drop_of_length_le (by omega), lnFs]
    rw [lnF, e, ← min_def'']
end Go.Proofs.YtodfpilpdkdapaaGreatDoor

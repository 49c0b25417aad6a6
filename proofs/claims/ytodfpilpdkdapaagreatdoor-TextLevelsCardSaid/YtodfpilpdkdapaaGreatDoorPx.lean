/-
  What package text finds: texts of levels, and of terms without applications. No statement of the seat.
-/
import Derived.Test.YtodfpilpdkdapaaGreatDoorPm
namespace Go.Proofs.YtodfpilpdkdapaaGreatDoor
open Go Go.Am Go.Gw

set_option maxRecDepth 100000 in
theorem group_can (xs : List (List UInt8)) (b : Bool) (z : Nat) (hl : (groupF xs).length ≤ 1000000000) : Pf C1 21 [.sl b z (svs xs)] [sv (groupF xs)] := by
  have hl' := hl
  rw [group_length] at hl'
  have hc := count_join (xs := xs) (c := 32)
  have hj := join_can (b := b) (z := z) (xs := xs) (sep := [32]) (by omega) (by omega)
  have h1 : slowBin C1.P .add 9 (.const (str [40])) (.tmp 4) (sv [40]) (sv (Lib.join xs [32])) = some (sv ([40] ++ Lib.join xs [32])) := sadd (by simp; omega)
  have h2 : slowBin C1.P .add 9 (.tmp 5) (.const (str [41])) (sv ([40] ++ Lib.join xs [32])) (sv [41]) = some (sv (groupF xs)) := sadd (by simp; omega)
  refine run_intro Tryz.func21 rfl rfl rfl ?_
  repeat' (conv => whnf
           first
           | refine VIf.tt rfl ?_
           | refine VIf.ff rfl ?_
           | refine VIf.not ?_
           | refine VIf.dtt (by assumption) ?_
           | refine VIf.dff (by assumption) ?_
           | refine VIf.dec (fun h => ?_) (fun h => ?_)
           | refine VIf.tt (by assumption) ?_
           | refine VIf.ff (by assumption) ?_
           | refine VIf.mk (fun h => ?_) (fun h => ?_)
           | refine VOk.mk rfl ?_
           | refine VNat.mk _ rfl ?_
           | refine VArith.fits (by unfold i64; omega) ?_
           | refine vret_pf rfl ?_
           | refine vret_take rfl rfl ?_
           | refine vcall_pf hj rfl rfl ?_
           | refine VRes.mk _ h1 ?_
           | refine VRes.mk _ h2 ?_)
  all_goals (try (conv => whnf))
  all_goals rfl
def signTs : List (List UInt8) := [[], [], [], [43], [124], [63]]
def binderTs : List (List UInt8) := [[], [], [], [], [], [92], [62], [61]]
theorem signs_can : ∃ b, Pf C1 22 [] [.sl b 1 (svs signTs)] := by
  first
    | exact ⟨true, pf_of (st' := []) 3 (by kernel_rfl)⟩
    | exact ⟨false, pf_of (st' := []) 3 (by kernel_rfl)⟩
theorem binders_can : ∃ b, Pf C1 28 [] [.sl b 1 (svs binderTs)] := by
  first
    | exact ⟨true, pf_of (st' := []) 3 (by kernel_rfl)⟩
    | exact ⟨false, pf_of (st' := []) 3 (by kernel_rfl)⟩
theorem itoa_can (n : Int) (h : n.natAbs ≤ 9223372036854775807) : Pf C1 17 [iv n] [sv (Lib.itoa n)] := by
  refine pf_nat rfl ?_
  have : Nat.ble n.natAbs 9223372036854775807 = true := Nat.ble_eq_true_of_le h
  simp only [itoaF, this, itoaK_eq h]
  rfl
set_option maxRecDepth 100000 in
theorem levels_of (ls : List Lv) (ih : ∀ l ∈ ls, ∀ v, LvP l v → Pf C1 12 [v] [sv (lvText l)]) (b : Bool) (z : Nat) (xs : List PV) (hz : z = 3 ∨ xs = []) (hxs : LvsP ls xs) (hbd : ls.length ≤ 3518437208780) :
    ∃ b' z', (z' = 1 ∨ ls = []) ∧ Pf C1 23 [.sl b z xs] [.sl b' z' (svs (ls.map lvText))] := by
  have hlen := hxs.len
  cases ls with
  | nil =>
    obtain rfl : xs = [] := by simpa using hlen
    first
      | exact ⟨true, 0, .inr rfl, pf_of (st' := []) 5 (by kernel_rfl)⟩
      | exact ⟨false, 0, .inr rfl, pf_of (st' := []) 5 (by kernel_rfl)⟩
      | exact ⟨true, 1, .inr rfl, pf_of (st' := []) 5 (by kernel_rfl)⟩
      | exact ⟨false, 1, .inr rfl, pf_of (st' := []) 5 (by kernel_rfl)⟩
  | cons l0 lr =>
  generalize hls : l0 :: lr = ls at ih hxs hbd hlen ⊢
  have hpos : 0 < ls.length := by rw [← hls]; simp
  refine ⟨false, 1, .inl rfl, ?_⟩
  refine run_intro Tryz.func23 rfl rfl rfl ?_
  repeat' (conv => whnf
           first
           | refine VIf.tt rfl ?_
           | refine VIf.ff rfl ?_
           | refine VIf.not ?_
           | refine VIf.dtt (by assumption) ?_
           | refine VIf.dff (by assumption) ?_
           | refine VIf.dec (fun h => ?_) (fun h => ?_)
           | refine VIf.tt (by assumption) ?_
           | refine VIf.ff (by assumption) ?_
           | refine VIf.mk (fun h => ?_) (fun h => ?_)
           | refine VOk.mk rfl ?_
           | refine VNat.mk _ rfl ?_
           | refine VArith.fits (by unfold i64; omega) ?_
           | refine vret_pf rfl ?_
           | refine vret_take rfl rfl ?_)
  all_goals (try (conv => whnf))
  refine loop_over (G := Nat) (fun i => [(8, iv i), (3, match i with
      | 0 => .sl true 0 []
      | n + 1 => .ms 1 (n + 1))]) (fun i => match i with
      | 0 => []
      | n + 1 => [.dead, .row false 9 1 (svs ((ls.take (n + 1)).map lvText))]) (fun i => i ≤ ls.length) (fun i => ls.length - i) 0 (by omega) rfl rfl ?_
  intro i hi
  have hround : ∀ (hi' : i < ls.length), ∃ lc, ls[i]? = some lc ∧ ∃ v, xs[i]? = some v ∧ LvP lc v ∧ Pf C1 12 [v] [sv (lvText lc)] := fun hi' => by
    obtain ⟨lc, hlc⟩ : ∃ lc, ls[i]? = some lc := ⟨_, List.getElem?_eq_getElem hi'⟩
    obtain ⟨v, hv, hl⟩ := hxs.at hlc
    exact ⟨lc, hlc, v, hv, hl, ih _ (List.mem_of_getElem? hlc) _ hl⟩
  cases i with
  | zero =>
    repeat' (conv => whnf
             first
             | refine VIf.tt rfl ?_
             | refine VIf.ff rfl ?_
             | refine VIf.not ?_
             | refine VIf.dtt (by assumption) ?_
             | refine VIf.dff (by assumption) ?_
             | refine VIf.dec (fun h => ?_) (fun h => ?_)
             | refine VIf.tt (by assumption) ?_
             | refine VIf.ff (by assumption) ?_
             | refine VIf.mk (fun h => ?_) (fun h => ?_)
             | refine VOk.mk rfl ?_
             | refine VNat.mk _ rfl ?_
             | refine VArith.fits (by unfold i64; omega) ?_
             | refine vret_pf rfl ?_
             | refine vret_take rfl rfl ?_)
    all_goals (try (conv => whnf))
    · obtain ⟨lc, hlc, v, hv, hl, hpl⟩ := hround hpos
      obtain ⟨k1, n1, l1, b1, z1, x1, rfl, rfl, hz1, hxs1, hlen1, hbd1⟩ := hl.open
      refine VIdx.mk _ hv (VOk.mk (szOk_of rfl hz) ?_)
      repeat' (conv => whnf
               first
               | refine VIf.tt rfl ?_
               | refine VIf.ff rfl ?_
               | refine VIf.not ?_
               | refine VIf.dtt (by assumption) ?_
               | refine VIf.dff (by assumption) ?_
               | refine VIf.dec (fun h => ?_) (fun h => ?_)
               | refine VIf.tt (by assumption) ?_
               | refine VIf.ff (by assumption) ?_
               | refine VIf.mk (fun h => ?_) (fun h => ?_)
               | refine VOk.mk rfl ?_
               | refine VNat.mk _ rfl ?_
               | refine VArith.fits (by unfold i64; omega) ?_
               | refine vret_pf rfl ?_
               | refine vret_take rfl rfl ?_
               | refine vcall_pf hpl rfl rfl ?_)
      all_goals (try (conv => whnf))
      have e : svs ((ls.take (0 + 1)).map lvText) = [sv (lvText (.mk k1 n1 l1))] := by rw [take_snoc' hlc]; rfl
      exact VAgain.mk _ rfl _ (gc_plain (And.intro (plain_box rfl) (And.intro (plain_row rfl) True.intro)) rfl rfl rfl rfl) ⟨1, hpos, by omega, congrArg (fun t => (⟨_, [.dead, .row false _ 1 t]⟩ : AS)) e.symm⟩
    · omega
  | succ i =>
    have hln : (svs ((ls.take (i + 1)).map lvText)).length = i + 1 := by simp; omega
    repeat' (conv => whnf
             first
             | refine VIf.tt rfl ?_
             | refine VIf.ff rfl ?_
             | refine VIf.not ?_
             | refine VIf.dtt (by assumption) ?_
             | refine VIf.dff (by assumption) ?_
             | refine VIf.dec (fun h => ?_) (fun h => ?_)
             | refine VIf.tt (by assumption) ?_
             | refine VIf.ff (by assumption) ?_
             | refine VIf.mk (fun h => ?_) (fun h => ?_)
             | refine VOk.mk rfl ?_
             | refine VNat.mk _ rfl ?_
             | refine VArith.fits (by unfold i64; omega) ?_
             | refine vret_pf rfl ?_
             | refine vret_take rfl rfl ?_)
    all_goals (try (conv => whnf))
    · obtain ⟨lc, hlc, v, hv, hl, hpl⟩ := hround (by omega)
      obtain ⟨k1, n1, l1, b1, z1, x1, rfl, rfl, hz1, hxs1, hlen1, hbd1⟩ := hl.open
      refine VIdx.mk _ hv (VOk.mk (szOk_of rfl hz) ?_)
      repeat' (conv => whnf
               first
               | refine VIf.tt rfl ?_
               | refine VIf.ff rfl ?_
               | refine VIf.not ?_
               | refine VIf.dtt (by assumption) ?_
               | refine VIf.dff (by assumption) ?_
               | refine VIf.dec (fun h => ?_) (fun h => ?_)
               | refine VIf.tt (by assumption) ?_
               | refine VIf.ff (by assumption) ?_
               | refine VIf.mk (fun h => ?_) (fun h => ?_)
               | refine VOk.mk rfl ?_
               | refine VNat.mk _ rfl ?_
               | refine VArith.fits (by unfold i64; omega) ?_
               | refine vret_pf rfl ?_
               | refine vret_take rfl rfl ?_
               | refine vcall_pf hpl rfl rfl ?_)
      all_goals (try (conv => whnf))
      refine VOk.mk (grow_ok (w := 16) (r := 140737488355328) hln rfl rfl rfl rfl (by simp only [List.length_cons, List.length_nil]; omega) (by simp only [List.length_cons, List.length_nil]; omega)) ?_
      repeat' (conv => whnf
               first
               | refine VIf.tt rfl ?_
               | refine VIf.ff rfl ?_
               | refine VIf.not ?_
               | refine VIf.dtt (by assumption) ?_
               | refine VIf.dff (by assumption) ?_
               | refine VIf.dec (fun h => ?_) (fun h => ?_)
               | refine VIf.tt (by assumption) ?_
               | refine VIf.ff (by assumption) ?_
               | refine VIf.mk (fun h => ?_) (fun h => ?_)
               | refine VOk.mk rfl ?_
               | refine VNat.mk _ rfl ?_
               | refine VArith.fits (by unfold i64; omega) ?_
               | refine vret_pf rfl ?_
               | refine vret_take rfl rfl ?_)
      all_goals (try (conv => whnf))
      have e : svs ((ls.take (i + 1 + 1)).map lvText) = svs ((ls.take (i + 1)).map lvText) ++ [sv (lvText (.mk k1 n1 l1))] := by rw [take_snoc' hlc]; simp
      exact VAgain.mk _ rfl _ (gc_plain (And.intro plain_dead (And.intro (plain_row (e ▸ svs_pure _)) (And.intro (plain_box rfl) True.intro))) rfl rfl rfl rfl) ⟨i + 1 + 1, by omega, by omega, congrArg (fun t => (⟨_, [.dead, .row false _ 1 t]⟩ : AS)) e.symm⟩
    · have hi' : i + 1 = ls.length := by omega
      have e : (ls.take (i + 1)).map lvText = ls.map lvText := by rw [hi', List.take_length]
      refine vret_row rfl rfl hln.symm (svs_pure6 _) ?_
      rw [e]
set_option maxRecDepth 100000 in
theorem plain_can (l : Lv) : ∀ v, LvP l v → allF l 4 = true → (lvText l).length ≤ 1000000000 → Pf C1 12 [v] [sv (lvText l)] := by
  induction l using Lv.ind with
  | _ k nn ls ih =>
  intro v h ha hb
  obtain ⟨_, _, _, b, z, xs, ⟨rfl, rfl, rfl⟩, rfl, hz, hxs, hlen, hbd⟩ := h.open
  obtain ⟨bs, hsg⟩ := signs_can
  have hnn : k = 1 ∨ k = 2 → nn.natAbs ≤ 9223372036854775807 := fun e => by
    have := node_parts (all_node ha)
    rcases e with rfl | rfl <;> simp at this <;> omega
  have hu : k = 2 → slowBin C1.P .add 9 (.const (str [117])) (.tmp 14) (sv [117]) (sv (Lib.itoa nn)) = some (sv ([117] ++ Lib.itoa nn)) := fun e => by
    have := Lib.itoa_length_le nn (by have := hnn (.inr e); omega) (by have := hnn (.inr e); omega)
    exact sadd (by simp; omega)
  refine run_intro Tryz.func12 rfl rfl rfl ?_
  repeat' (conv => whnf
           first
           | refine VIf.tt rfl ?_
           | refine VIf.ff rfl ?_
           | refine VIf.not ?_
           | refine VIf.dtt (by assumption) ?_
           | refine VIf.dff (by assumption) ?_
           | refine VIf.dec (fun h => ?_) (fun h => ?_)
           | refine VIf.tt (by assumption) ?_
           | refine VIf.ff (by assumption) ?_
           | refine VIf.mk (fun h => ?_) (fun h => ?_)
           | refine VOk.mk rfl ?_
           | refine VNat.mk _ rfl ?_
           | refine VArith.fits (by unfold i64; omega) ?_
           | refine vret_pf rfl ?_
           | refine vret_take rfl rfl ?_
           | refine vcall_pf (itoa_can nn (hnn (.inl (by assumption)))) rfl rfl ?_
           | refine vcall_pf (itoa_can nn (hnn (.inr (by assumption)))) rfl rfl ?_
           | refine VRes.mk _ (hu (by assumption)) ?_
           | refine finds_pf hsg (fun _ => ?_))
  all_goals (try (conv => whnf))
  · show AEnd.ret [sv (Lib.itoa nn)] = _
    rw [lvText, if_pos (by assumption)]
  · rw [lvText, if_neg (by assumption), if_pos (by assumption)]
  · obtain ⟨hk3, hne, hle⟩ := all_kind ha (by assumption) (by assumption)
    have hparts := lv_parts ha (by assumption) (by assumption) hb
    obtain ⟨b', z', hz', hlv⟩ := levels_of ls (fun l h v hl => ih l h v hl (hparts l h).1 (hparts l h).2) b z xs hz hxs hbd
    obtain rfl : z' = 1 := hz'.resolve_right (fun e => by rw [e] at hne; simp at hne)
    have hidx : (svs signTs)[k.toNat]? = some (sv (signF k)) := by
      obtain e | e | e : k = 3 ∨ k = 4 ∨ k = 5 := by omega
      all_goals
        subst e
        rfl
    have htx : lvText (.mk k nn ls) = groupF (signF k :: ls.map lvText) := by rw [lvText, if_neg (by assumption), if_neg (by assumption), lvTexts_eq]
    rw [htx] at hb ⊢
    obtain ⟨l0, lr, rfl⟩ : ∃ l0 lr, ls = l0 :: lr := by
      cases ls with
      | nil => simp at hne
      | cons l0 lr => exact ⟨l0, lr, rfl⟩
    have hln : (svs (signF k :: (l0 :: lr).map lvText)).length = lr.length + 2 := by simp
    refine VNat.nonneg (by omega) (VIdx.mk _ hidx ?_)
    repeat' (conv => whnf
             first
             | refine VIf.tt rfl ?_
             | refine VIf.ff rfl ?_
             | refine VIf.not ?_
             | refine VIf.dtt (by assumption) ?_
             | refine VIf.dff (by assumption) ?_
             | refine VIf.dec (fun h => ?_) (fun h => ?_)
             | refine VIf.tt (by assumption) ?_
             | refine VIf.ff (by assumption) ?_
             | refine VIf.mk (fun h => ?_) (fun h => ?_)
             | refine VOk.mk rfl ?_
             | refine VNat.mk _ rfl ?_
             | refine VArith.fits (by unfold i64; omega) ?_
             | refine vret_pf rfl ?_
             | refine vret_take rfl rfl ?_
             | refine finds_pf hlv (fun _ => ?_))
    all_goals (try (conv => whnf))
    have hm : [sv (signF k)].length + (svs ((l0 :: lr).map lvText)).length ≤ 3 := by simp at hle ⊢; omega
    refine VOk.mk (grow_ok2 (w := 16) (r := 140737488355328) rfl rfl rfl (by omega) (by omega)) ?_
    repeat' (conv => whnf
             first
             | refine VIf.tt rfl ?_
             | refine VIf.ff rfl ?_
             | refine VIf.not ?_
             | refine VIf.dtt (by assumption) ?_
             | refine VIf.dff (by assumption) ?_
             | refine VIf.dec (fun h => ?_) (fun h => ?_)
             | refine VIf.tt (by assumption) ?_
             | refine VIf.ff (by assumption) ?_
             | refine VIf.mk (fun h => ?_) (fun h => ?_)
             | refine VOk.mk rfl ?_
             | refine VNat.mk _ rfl ?_
             | refine VArith.fits (by unfold i64; omega) ?_
             | refine vret_pf rfl ?_
             | refine vret_take rfl rfl ?_)
    all_goals (try (conv => whnf))
    refine vcall_row rfl rfl (by simp; omega) (svs_pure6 (signF k :: (l0 :: lr).map lvText)) (group_can _ _ _ hb) rfl ?_
    repeat' (conv => whnf
             first
             | refine VIf.tt rfl ?_
             | refine VIf.ff rfl ?_
             | refine VIf.not ?_
             | refine VIf.dtt (by assumption) ?_
             | refine VIf.dff (by assumption) ?_
             | refine VIf.dec (fun h => ?_) (fun h => ?_)
             | refine VIf.tt (by assumption) ?_
             | refine VIf.ff (by assumption) ?_
             | refine VIf.mk (fun h => ?_) (fun h => ?_)
             | refine VOk.mk rfl ?_
             | refine VNat.mk _ rfl ?_
             | refine VArith.fits (by unfold i64; omega) ?_
             | refine vret_pf rfl ?_
             | refine vret_take rfl rfl ?_)
    all_goals (try (conv => whnf))
    rfl
theorem levels_can (ls : List Lv) (b : Bool) (z : Nat) (xs : List PV) (hz : z = 3 ∨ xs = []) (hxs : LvsP ls xs) (hbd : ls.length ≤ 3518437208780) (ha : ∀ l ∈ ls, allF l 4 = true ∧ (lvText l).length ≤ 1000000000) :
    ∃ b' z', (z' = 1 ∨ ls = []) ∧ Pf C1 23 [.sl b z xs] [.sl b' z' (svs (ls.map lvText))] :=
  levels_of ls (fun l h v hl => plain_can l v hl (ha l h).1 (ha l h).2) b z xs hz hxs hbd
theorem lv_short {l : Lv} (h : rightF l 4 = true) : (lvText l).length ≤ 2000 := by
  have h1 := lvText_le l (right_all h)
  have h2 := right_size' h
  omega
set_option maxRecDepth 100000 in
theorem Level_can (l : Lv) (v : PV) (h : LvP l v) : Pf C1 6 [v] [sv (levelText l)] := by
  have hr := right_can l v h 4
  have hp := fun (e : rightF l 4 = true) => plain_can l v h (right_all e) (Nat.le_trans (lv_short e) (by omega))
  obtain ⟨k, nn, ls, b, z, xs, rfl, rfl, hz, hxs, hlen, hbd⟩ := h.open
  refine run_intro Tryz.func6 rfl rfl rfl ?_
  repeat' (conv => whnf
           first
           | refine VIf.tt rfl ?_
           | refine VIf.ff rfl ?_
           | refine VIf.not ?_
           | refine VIf.dtt (by assumption) ?_
           | refine VIf.dff (by assumption) ?_
           | refine VIf.dec (fun h => ?_) (fun h => ?_)
           | refine VIf.tt (by assumption) ?_
           | refine VIf.ff (by assumption) ?_
           | refine VIf.mk (fun h => ?_) (fun h => ?_)
           | refine VOk.mk rfl ?_
           | refine VNat.mk _ rfl ?_
           | refine VArith.fits (by unfold i64; omega) ?_
           | refine vret_pf rfl ?_
           | refine vret_take rfl rfl ?_
           | refine vcall_pf hr rfl rfl ?_
           | refine vcall_pf (hp (by assumption)) rfl rfl ?_)
  all_goals (try (conv => whnf))
  all_goals simp_all [levelText]
  all_goals first | done | rfl
set_option maxRecDepth 100000 in
theorem terms_of (ls : List Tm) (ih : ∀ l ∈ ls, ∀ v, TmP l v → Pf C1 14 [v] [sv (txN l)]) (b : Bool) (z : Nat) (xs : List PV) (hz : z = 5 ∨ xs = []) (hxs : TmsP ls xs) (hbd : ls.length ≤ 3518437208780) :
    ∃ b' z', (z' = 1 ∨ ls = []) ∧ Pf C1 27 [.sl b z xs] [.sl b' z' (svs (ls.map txN))] := by
  have hlen := hxs.len
  cases ls with
  | nil =>
    obtain rfl : xs = [] := by simpa using hlen
    first
      | exact ⟨true, 0, .inr rfl, pf_of (st' := []) 5 (by kernel_rfl)⟩
      | exact ⟨false, 0, .inr rfl, pf_of (st' := []) 5 (by kernel_rfl)⟩
      | exact ⟨true, 1, .inr rfl, pf_of (st' := []) 5 (by kernel_rfl)⟩
      | exact ⟨false, 1, .inr rfl, pf_of (st' := []) 5 (by kernel_rfl)⟩
  | cons l0 lr =>
  generalize hls : l0 :: lr = ls at ih hxs hbd hlen ⊢
  have hpos : 0 < ls.length := by rw [← hls]; simp
  refine ⟨false, 1, .inl rfl, ?_⟩
  refine run_intro Tryz.func27 rfl rfl rfl ?_
  repeat' (conv => whnf
           first
           | refine VIf.tt rfl ?_
           | refine VIf.ff rfl ?_
           | refine VIf.not ?_
           | refine VIf.dtt (by assumption) ?_
           | refine VIf.dff (by assumption) ?_
           | refine VIf.dec (fun h => ?_) (fun h => ?_)
           | refine VIf.tt (by assumption) ?_
           | refine VIf.ff (by assumption) ?_
           | refine VIf.mk (fun h => ?_) (fun h => ?_)
           | refine VOk.mk rfl ?_
           | refine VNat.mk _ rfl ?_
           | refine VArith.fits (by unfold i64; omega) ?_
           | refine vret_pf rfl ?_
           | refine vret_take rfl rfl ?_)
  all_goals (try (conv => whnf))
  refine loop_over (G := Nat) (fun i => [(8, iv i), (3, match i with
      | 0 => .sl true 0 []
      | n + 1 => .ms 1 (n + 1))]) (fun i => match i with
      | 0 => []
      | n + 1 => [.dead, .row false 9 1 (svs ((ls.take (n + 1)).map txN))]) (fun i => i ≤ ls.length) (fun i => ls.length - i) 0 (by omega) rfl rfl ?_
  intro i hi
  have hround : ∀ (hi' : i < ls.length), ∃ lc, ls[i]? = some lc ∧ ∃ v, xs[i]? = some v ∧ TmP lc v ∧ Pf C1 14 [v] [sv (txN lc)] := fun hi' => by
    obtain ⟨lc, hlc⟩ : ∃ lc, ls[i]? = some lc := ⟨_, List.getElem?_eq_getElem hi'⟩
    obtain ⟨v, hv, hl⟩ := hxs.at hlc
    exact ⟨lc, hlc, v, hv, hl, ih _ (List.mem_of_getElem? hlc) _ hl⟩
  cases i with
  | zero =>
    repeat' (conv => whnf
             first
             | refine VIf.tt rfl ?_
             | refine VIf.ff rfl ?_
             | refine VIf.not ?_
             | refine VIf.dtt (by assumption) ?_
             | refine VIf.dff (by assumption) ?_
             | refine VIf.dec (fun h => ?_) (fun h => ?_)
             | refine VIf.tt (by assumption) ?_
             | refine VIf.ff (by assumption) ?_
             | refine VIf.mk (fun h => ?_) (fun h => ?_)
             | refine VOk.mk rfl ?_
             | refine VNat.mk _ rfl ?_
             | refine VArith.fits (by unfold i64; omega) ?_
             | refine vret_pf rfl ?_
             | refine vret_take rfl rfl ?_)
    all_goals (try (conv => whnf))
    · obtain ⟨lc, hlc, v, hv, hl, hpl⟩ := hround hpos
      obtain ⟨k1, n1, s1, l1, t1, b1, z1, x1, c1, y1, ys1, rfl, rfl, hz1, hxs1, hlen1, hbd1, hy1, hys1, hlen21, hbd21, hsl1⟩ := hl.open
      refine VIdx.mk _ hv (VOk.mk (szOk_of rfl hz) ?_)
      repeat' (conv => whnf
               first
               | refine VIf.tt rfl ?_
               | refine VIf.ff rfl ?_
               | refine VIf.not ?_
               | refine VIf.dtt (by assumption) ?_
               | refine VIf.dff (by assumption) ?_
               | refine VIf.dec (fun h => ?_) (fun h => ?_)
               | refine VIf.tt (by assumption) ?_
               | refine VIf.ff (by assumption) ?_
               | refine VIf.mk (fun h => ?_) (fun h => ?_)
               | refine VOk.mk rfl ?_
               | refine VNat.mk _ rfl ?_
               | refine VArith.fits (by unfold i64; omega) ?_
               | refine vret_pf rfl ?_
               | refine vret_take rfl rfl ?_
               | refine vcall_pf hpl rfl rfl ?_)
      all_goals (try (conv => whnf))
      have e : svs ((ls.take (0 + 1)).map txN) = [sv (txN (.mk k1 n1 s1 l1 t1))] := by rw [take_snoc' hlc]; rfl
      exact VAgain.mk _ rfl _ (gc_plain (And.intro (plain_box rfl) (And.intro (plain_row rfl) True.intro)) rfl rfl rfl rfl) ⟨1, hpos, by omega, congrArg (fun t => (⟨_, [.dead, .row false _ 1 t]⟩ : AS)) e.symm⟩
    · omega
  | succ i =>
    have hln : (svs ((ls.take (i + 1)).map txN)).length = i + 1 := by simp; omega
    repeat' (conv => whnf
             first
             | refine VIf.tt rfl ?_
             | refine VIf.ff rfl ?_
             | refine VIf.not ?_
             | refine VIf.dtt (by assumption) ?_
             | refine VIf.dff (by assumption) ?_
             | refine VIf.dec (fun h => ?_) (fun h => ?_)
             | refine VIf.tt (by assumption) ?_
             | refine VIf.ff (by assumption) ?_
             | refine VIf.mk (fun h => ?_) (fun h => ?_)
             | refine VOk.mk rfl ?_
             | refine VNat.mk _ rfl ?_
             | refine VArith.fits (by unfold i64; omega) ?_
             | refine vret_pf rfl ?_
             | refine vret_take rfl rfl ?_)
    all_goals (try (conv => whnf))
    · obtain ⟨lc, hlc, v, hv, hl, hpl⟩ := hround (by omega)
      obtain ⟨k1, n1, s1, l1, t1, b1, z1, x1, c1, y1, ys1, rfl, rfl, hz1, hxs1, hlen1, hbd1, hy1, hys1, hlen21, hbd21, hsl1⟩ := hl.open
      refine VIdx.mk _ hv (VOk.mk (szOk_of rfl hz) ?_)
      repeat' (conv => whnf
               first
               | refine VIf.tt rfl ?_
               | refine VIf.ff rfl ?_
               | refine VIf.not ?_
               | refine VIf.dtt (by assumption) ?_
               | refine VIf.dff (by assumption) ?_
               | refine VIf.dec (fun h => ?_) (fun h => ?_)
               | refine VIf.tt (by assumption) ?_
               | refine VIf.ff (by assumption) ?_
               | refine VIf.mk (fun h => ?_) (fun h => ?_)
               | refine VOk.mk rfl ?_
               | refine VNat.mk _ rfl ?_
               | refine VArith.fits (by unfold i64; omega) ?_
               | refine vret_pf rfl ?_
               | refine vret_take rfl rfl ?_
               | refine vcall_pf hpl rfl rfl ?_)
      all_goals (try (conv => whnf))
      refine VOk.mk (grow_ok (w := 16) (r := 140737488355328) hln rfl rfl rfl rfl (by simp only [List.length_cons, List.length_nil]; omega) (by simp only [List.length_cons, List.length_nil]; omega)) ?_
      repeat' (conv => whnf
               first
               | refine VIf.tt rfl ?_
               | refine VIf.ff rfl ?_
               | refine VIf.not ?_
               | refine VIf.dtt (by assumption) ?_
               | refine VIf.dff (by assumption) ?_
               | refine VIf.dec (fun h => ?_) (fun h => ?_)
               | refine VIf.tt (by assumption) ?_
               | refine VIf.ff (by assumption) ?_
               | refine VIf.mk (fun h => ?_) (fun h => ?_)
               | refine VOk.mk rfl ?_
               | refine VNat.mk _ rfl ?_
               | refine VArith.fits (by unfold i64; omega) ?_
               | refine vret_pf rfl ?_
               | refine vret_take rfl rfl ?_)
      all_goals (try (conv => whnf))
      have e : svs ((ls.take (i + 1 + 1)).map txN) = svs ((ls.take (i + 1)).map txN) ++ [sv (txN (.mk k1 n1 s1 l1 t1))] := by rw [take_snoc' hlc]; simp
      exact VAgain.mk _ rfl _ (gc_plain (And.intro plain_dead (And.intro (plain_row (e ▸ svs_pure _)) (And.intro (plain_box rfl) True.intro))) rfl rfl rfl rfl) ⟨i + 1 + 1, by omega, by omega, congrArg (fun t => (⟨_, [.dead, .row false _ 1 t]⟩ : AS)) e.symm⟩
    · have hi' : i + 1 = ls.length := by omega
      have e : (ls.take (i + 1)).map txN = ls.map txN := by rw [hi', List.take_length]
      refine vret_row rfl rfl hln.symm (svs_pure6 _) ?_
      rw [e]
set_option maxRecDepth 100000 in
theorem shown_can (t : Tm) : ∀ v, TmP t v → ∀ kk : Int, allT t 4 kk = true → noApp t = true → (txN t).length ≤ 1000000000 → Pf C1 14 [v] [sv (txN t)] := by
  induction t using Tm.ind with
  | _ k nn s ls ts ih =>
  intro v h kk ha hna hb
  obtain ⟨_, _, _, _, _, b, z, xs, c, y, ys, ⟨rfl, rfl, rfl, rfl, rfl⟩, rfl, hz, hxs, hlen, hbd, hy, hys, hlen2, hbd2, hsl⟩ := h.open
  obtain ⟨hk17, hla, hk2, hrl, hat, hl4⟩ := allT_open ha
  rw [noApp, Bool.and_eq_true, decide_eq_true_eq] at hna
  obtain ⟨hn4, hna⟩ := hna
  have hlp : ∀ l ∈ ls, allF l 4 = true ∧ (lvText l).length ≤ 1000000000 := fun l h => ⟨right_all (hrl l h), Nat.le_trans (lv_short (hrl l h)) (by omega)⟩
  obtain ⟨bb, hbi⟩ := binders_can
  have hn64 := h.num
  have h1 : k = 1 → nn.natAbs ≤ 9223372036854775807 := fun e => by
    subst e
    rw [allT] at ha
    simp [nodeT] at ha
    unfold i64 at hn64
    omega
  have hu : k = 1 → slowBin C1.P .add 9 (.const (str [35])) (.tmp 11) (sv [35]) (sv (Lib.itoa nn)) = some (sv ([35] ++ Lib.itoa nn)) := fun e => by
    have := Lib.itoa_length_le nn (by have := h1 e; omega) (by have := h1 e; omega)
    exact sadd (by simp; omega)
  refine run_intro Tryz.func14 rfl rfl rfl ?_
  repeat' (conv => whnf
           first
           | refine VIf.tt rfl ?_
           | refine VIf.ff rfl ?_
           | refine VIf.not ?_
           | refine VIf.dtt (by assumption) ?_
           | refine VIf.dff (by assumption) ?_
           | refine VIf.dec (fun h => ?_) (fun h => ?_)
           | refine VIf.tt (by assumption) ?_
           | refine VIf.ff (by assumption) ?_
           | refine VIf.mk (fun h => ?_) (fun h => ?_)
           | refine VOk.mk rfl ?_
           | refine VNat.mk _ rfl ?_
           | refine VArith.fits (by unfold i64; omega) ?_
           | refine vret_pf rfl ?_
           | refine vret_take rfl rfl ?_
           | refine VIf.dff hn4 ?_
           | refine finds_pf hbi (fun _ => ?_)
           | refine vcall_pf (itoa_can nn (h1 (by assumption))) rfl rfl ?_
           | refine VRes.mk _ (hu (by assumption)) ?_)
  all_goals (try (conv => whnf))
  · rw [txN, if_pos (by assumption)]
  · have hk : k = 2 := by assumption
    obtain ⟨lc, hlc⟩ : ∃ lc, ls[0]? = some lc := ⟨_, List.getElem?_eq_getElem (by have := hk2 hk; omega)⟩
    obtain ⟨v, hv, hl⟩ := hxs.at hlc
    have hlpc := hlp lc (List.mem_of_getElem? hlc)
    have hpl := plain_can lc v hl hlpc.1 hlpc.2
    have hget : ls.getD 0 (.mk 0 0 []) = lc := by rw [List.getD_eq_getElem?_getD, hlc]; rfl
    have htx : txN (.mk k nn s ls ts) = groupF [[42], lvText lc] := by rw [txN, if_neg (by assumption), if_pos hk, hget]
    rw [htx] at hb ⊢
    obtain ⟨k1, n1, l1, b1, z1, x1, rfl, rfl, hz1, hxs1, hlen1, hbd1⟩ := hl.open
    refine VIdx.mk _ hv (VOk.mk (szOk_of rfl hz) ?_)
    repeat' (conv => whnf
             first
             | refine VIf.tt rfl ?_
             | refine VIf.ff rfl ?_
             | refine VIf.not ?_
             | refine VIf.dtt (by assumption) ?_
             | refine VIf.dff (by assumption) ?_
             | refine VIf.dec (fun h => ?_) (fun h => ?_)
             | refine VIf.tt (by assumption) ?_
             | refine VIf.ff (by assumption) ?_
             | refine VIf.mk (fun h => ?_) (fun h => ?_)
             | refine VOk.mk rfl ?_
             | refine VNat.mk _ rfl ?_
             | refine VArith.fits (by unfold i64; omega) ?_
             | refine vret_pf rfl ?_
             | refine vret_take rfl rfl ?_
             | refine vcall_pf hpl rfl rfl ?_
             | refine vcall_pf (group_can _ _ _ hb) rfl rfl ?_)
    all_goals (try (conv => whnf))
    all_goals rfl
  · rw [txN, if_neg (by assumption), if_neg (by assumption), if_pos (by assumption), if_pos (by omega)]
  · have hne : 0 < ls.length := by omega
    obtain ⟨b', z', hz', hlv⟩ := levels_can ls b z xs hz hxs hbd hlp
    obtain rfl : z' = 1 := hz'.resolve_right (fun e => by rw [e] at hne; simp at hne)
    have htx : txN (.mk k nn s ls ts) = groupF ([64] :: s :: ls.map lvText) := by rw [txN, if_neg (by assumption), if_neg (by assumption), if_pos (by assumption), if_neg (by omega), lvTexts_eq]
    rw [htx] at hb ⊢
    obtain ⟨l0, lr, rfl⟩ : ∃ l0 lr, ls = l0 :: lr := by
      cases ls with
      | nil => simp at hne
      | cons l0 lr => exact ⟨l0, lr, rfl⟩
    repeat' (conv => whnf
             first
             | refine VIf.tt rfl ?_
             | refine VIf.ff rfl ?_
             | refine VIf.not ?_
             | refine VIf.dtt (by assumption) ?_
             | refine VIf.dff (by assumption) ?_
             | refine VIf.dec (fun h => ?_) (fun h => ?_)
             | refine VIf.tt (by assumption) ?_
             | refine VIf.ff (by assumption) ?_
             | refine VIf.mk (fun h => ?_) (fun h => ?_)
             | refine VOk.mk rfl ?_
             | refine VNat.mk _ rfl ?_
             | refine VArith.fits (by unfold i64; omega) ?_
             | refine vret_pf rfl ?_
             | refine vret_take rfl rfl ?_
             | refine finds_pf hlv (fun _ => ?_))
    all_goals (try (conv => whnf))
    have hm : [sv [64], sv s].length + (svs ((l0 :: lr).map lvText)).length ≤ 6 := by simp at hl4 ⊢; omega
    refine VOk.mk (grow_ok2 (w := 16) (r := 140737488355328) rfl rfl rfl (Nat.le_trans (Nat.mul_le_mul_right _ hm) (by omega)) (Nat.le_trans hm (by omega))) ?_
    repeat' (conv => whnf
             first
             | refine VIf.tt rfl ?_
             | refine VIf.ff rfl ?_
             | refine VIf.not ?_
             | refine VIf.dtt (by assumption) ?_
             | refine VIf.dff (by assumption) ?_
             | refine VIf.dec (fun h => ?_) (fun h => ?_)
             | refine VIf.tt (by assumption) ?_
             | refine VIf.ff (by assumption) ?_
             | refine VIf.mk (fun h => ?_) (fun h => ?_)
             | refine VOk.mk rfl ?_
             | refine VNat.mk _ rfl ?_
             | refine VArith.fits (by unfold i64; omega) ?_
             | refine vret_pf rfl ?_
             | refine vret_take rfl rfl ?_)
    all_goals (try (conv => whnf))
    refine vcall_row rfl rfl (by simp; omega) (svs_pure6 ([64] :: s :: (l0 :: lr).map lvText)) (group_can _ _ _ hb) rfl ?_
    repeat' (conv => whnf
             first
             | refine VIf.tt rfl ?_
             | refine VIf.ff rfl ?_
             | refine VIf.not ?_
             | refine VIf.dtt (by assumption) ?_
             | refine VIf.dff (by assumption) ?_
             | refine VIf.dec (fun h => ?_) (fun h => ?_)
             | refine VIf.tt (by assumption) ?_
             | refine VIf.ff (by assumption) ?_
             | refine VIf.mk (fun h => ?_) (fun h => ?_)
             | refine VOk.mk rfl ?_
             | refine VNat.mk _ rfl ?_
             | refine VArith.fits (by unfold i64; omega) ?_
             | refine vret_pf rfl ?_
             | refine vret_take rfl rfl ?_)
    all_goals (try (conv => whnf))
    rfl
  · have hk5 : 5 ≤ k ∧ k ≤ 7 := by omega
    have hlt : 2 ≤ ts.length ∧ ts.length ≤ 3 := by
      unfold shArgs at hla
      split at hla <;> (try split at hla) <;> omega
    have hparts := tx_parts (by assumption) (by assumption) (by assumption) hb
    obtain ⟨b', z', hz', hlv⟩ := terms_of ts (fun t h v hl => (hat t h).elim fun kk' h3 => ih t h v hl kk' h3 (noApps_mem hna h) (hparts t h)) c y ys hy hys hbd2
    obtain rfl : z' = 1 := hz'.resolve_right (fun e => by rw [e] at hlt; simp at hlt)
    have hidx : (svs binderTs)[k.toNat]? = some (sv (binderF k)) := by
      obtain e | e | e : k = 5 ∨ k = 6 ∨ k = 7 := by omega
      all_goals
        subst e
        rfl
    have htx : txN (.mk k nn s ls ts) = groupF (binderF k :: ts.map txN) := by rw [txN, if_neg (by assumption), if_neg (by assumption), if_neg (by assumption), txNs_eq]
    rw [htx] at hb ⊢
    obtain ⟨t0, tr, rfl⟩ : ∃ t0 tr, ts = t0 :: tr := by
      cases ts with
      | nil => simp at hlt
      | cons l0 lr => exact ⟨l0, lr, rfl⟩
    refine VNat.nonneg (by omega) (VIdx.mk _ hidx ?_)
    repeat' (conv => whnf
             first
             | refine VIf.tt rfl ?_
             | refine VIf.ff rfl ?_
             | refine VIf.not ?_
             | refine VIf.dtt (by assumption) ?_
             | refine VIf.dff (by assumption) ?_
             | refine VIf.dec (fun h => ?_) (fun h => ?_)
             | refine VIf.tt (by assumption) ?_
             | refine VIf.ff (by assumption) ?_
             | refine VIf.mk (fun h => ?_) (fun h => ?_)
             | refine VOk.mk rfl ?_
             | refine VNat.mk _ rfl ?_
             | refine VArith.fits (by unfold i64; omega) ?_
             | refine vret_pf rfl ?_
             | refine vret_take rfl rfl ?_
             | refine finds_pf hlv (fun _ => ?_))
    all_goals (try (conv => whnf))
    have hm : [sv (binderF k)].length + (svs ((t0 :: tr).map txN)).length ≤ 6 := by simp at hlt ⊢; omega
    refine VOk.mk (grow_ok2 (w := 16) (r := 140737488355328) rfl rfl rfl (by omega) (by omega)) ?_
    repeat' (conv => whnf
             first
             | refine VIf.tt rfl ?_
             | refine VIf.ff rfl ?_
             | refine VIf.not ?_
             | refine VIf.dtt (by assumption) ?_
             | refine VIf.dff (by assumption) ?_
             | refine VIf.dec (fun h => ?_) (fun h => ?_)
             | refine VIf.tt (by assumption) ?_
             | refine VIf.ff (by assumption) ?_
             | refine VIf.mk (fun h => ?_) (fun h => ?_)
             | refine VOk.mk rfl ?_
             | refine VNat.mk _ rfl ?_
             | refine VArith.fits (by unfold i64; omega) ?_
             | refine vret_pf rfl ?_
             | refine vret_take rfl rfl ?_)
    all_goals (try (conv => whnf))
    refine vcall_row rfl rfl (by simp; omega) (svs_pure6 (binderF k :: (t0 :: tr).map txN)) (group_can _ _ _ hb) rfl ?_
    repeat' (conv => whnf
             first
             | refine VIf.tt rfl ?_
             | refine VIf.ff rfl ?_
             | refine VIf.not ?_
             | refine VIf.dtt (by assumption) ?_
             | refine VIf.dff (by assumption) ?_
             | refine VIf.dec (fun h => ?_) (fun h => ?_)
             | refine VIf.tt (by assumption) ?_
             | refine VIf.ff (by assumption) ?_
             | refine VIf.mk (fun h => ?_) (fun h => ?_)
             | refine VOk.mk rfl ?_
             | refine VNat.mk _ rfl ?_
             | refine VArith.fits (by unfold i64; omega) ?_
             | refine vret_pf rfl ?_
             | refine vret_take rfl rfl ?_)
    all_goals (try (conv => whnf))
    rfl
set_option maxRecDepth 100000 in
theorem Term_can {NM : List UInt8 → Prop} (hNM : NmOk NM) (t : Tm) (v : PV) (h : TmP t v) (hnt : NmT NM t) (hna : noApp t = true) (hb : rightT t 4 1125899906842624 = true → (txN t).length ≤ 1000000000) : Pf C1 7 [v] [sv (textN t)] := by
  have hr := rightT_can hNM t v h hnt 4 1125899906842624
  have hs := fun (e : rightT t 4 1125899906842624 = true) => shown_can t v h _ (rightT_all e) hna (hb e)
  obtain ⟨k, nn, s, ls, ts, b, z, xs, c, y, ys, rfl, rfl, hz, hxs, hlen, hbd, hy, hys, hlen2, hbd2, hsl⟩ := h.open
  refine run_intro Tryz.func7 rfl rfl rfl ?_
  repeat' (conv => whnf
           first
           | refine VIf.tt rfl ?_
           | refine VIf.ff rfl ?_
           | refine VIf.not ?_
           | refine VIf.dtt (by assumption) ?_
           | refine VIf.dff (by assumption) ?_
           | refine VIf.dec (fun h => ?_) (fun h => ?_)
           | refine VIf.tt (by assumption) ?_
           | refine VIf.ff (by assumption) ?_
           | refine VIf.mk (fun h => ?_) (fun h => ?_)
           | refine VOk.mk rfl ?_
           | refine VNat.mk _ rfl ?_
           | refine VArith.fits (by unfold i64; omega) ?_
           | refine vret_pf rfl ?_
           | refine vret_take rfl rfl ?_
           | refine vcall_pf hr rfl rfl ?_
           | refine vcall_pf (hs (by assumption)) rfl rfl ?_)
  all_goals (try (conv => whnf))
  all_goals simp_all [textN]
  all_goals first | done | rfl
end Go.Proofs.YtodfpilpdkdapaaGreatDoor

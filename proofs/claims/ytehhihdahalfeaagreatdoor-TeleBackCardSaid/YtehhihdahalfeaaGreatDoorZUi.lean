/-
  Names that a term has not (package tele). No statement of the seat.
-/
import Derived.Test.YtehhihdahalfeaaGreatDoorZUf
import Derived.Test.YtehhihdahalfeaaGreatDoorZNr
set_option linter.unusedVariables false
set_option linter.unusedSimpArgs false
set_option linter.unnecessarySimpa false
namespace Go.Proofs.YtehhihdahalfeaaGreatDoor
open Go Go.Am Go.Gw
theorem hasPrefix_can (s p : List UInt8) : Pf C1 126 [sv s, sv p] [bv (Lib.hasPrefix s p)] := pf_nat (F := hasPrefixF) rfl (by simp [hasPrefixF, bl])
theorem itoaN_can (m : Nat) (h : m ≤ 1000000) : Pf C1 43 [iv m] [sv (Lib.decDigits m)] := by
  refine pf_nat rfl ?_
  have h1 : Nat.ble (m : Int).natAbs 9223372036854775807 = true := Nat.ble_eq_true_of_le (by omega)
  have h2 := itoaK_eq (n := (m : Int)) (by omega)
  rw [itoa_nat] at h2
  simp only [itoaF, h1, h2]
  rfl
set_option maxRecDepth 100000 in
theorem Under_can (s p : List UInt8) (hs : s.length ≤ 140737488355328) (hp : p.length ≤ 1000000) : Pf C1 79 [sv s, sv p] [bv (underF s p)] := by
  have h1 := nameRight_can s hs
  have h2 := nameRight_can p (by omega)
  have h3 := hasPrefix_can s (p ++ [46])
  refine run_intro Tryz.func79 rfl rfl rfl ?_
  repeat' ((conv => whnf) ; first | refine VIf.tt rfl ?_ | refine VIf.ff rfl ?_ | refine VIf.not ?_ | refine VIf.dtt (by assumption) ?_ | refine VIf.dff (by assumption) ?_ | refine VIf.dec (fun h => ?_) (fun h => ?_) | refine VIf.tt (by assumption) ?_ | refine VIf.ff (by assumption) ?_ | refine VIf.mk (fun h => ?_) (fun h => ?_) | refine VOk.mk rfl ?_ | refine VPur.mk rfl ?_ | refine VNat.mk _ rfl ?_ | refine VArith.fits (by unfold i64; omega) ?_ | refine vret_pf rfl ?_ | refine vret_take rfl rfl ?_ | refine vcall_pf h1 rfl rfl ?_ | refine vcall_pf h2 rfl rfl ?_ | refine vres_str ?_ | refine VOk.mk (decide_eq_true (by simp only [List.length_cons, List.length_nil]; omega)) ?_ | refine vcall_pf h3 rfl rfl ?_ | refine VTch.mk _ rfl ?_)
  all_goals (try (conv => whnf))
  all_goals simp_all [underF]
  all_goals (rw [beq_eq_false_iff_ne.2 (by assumption), Bool.false_or]; rfl)
set_option maxRecDepth 100000 in
theorem free1_can (s p : List UInt8) (hs : s.length ≤ 140737488355328) (hp : p.length ≤ 1000000) : Pf C1 78 [sv s, .cp [sv p]] [bv (underF s p)] := by
  have h1 := Under_can s p hs hp
  refine run_intro Tryz.func78 rfl rfl rfl ?_
  repeat' ((conv => whnf) ; first | refine VIf.tt rfl ?_ | refine VIf.ff rfl ?_ | refine VIf.not ?_ | refine VIf.dtt (by assumption) ?_ | refine VIf.dff (by assumption) ?_ | refine VIf.dec (fun h => ?_) (fun h => ?_) | refine VIf.tt (by assumption) ?_ | refine VIf.ff (by assumption) ?_ | refine VIf.mk (fun h => ?_) (fun h => ?_) | refine VOk.mk rfl ?_ | refine VPur.mk rfl ?_ | refine VNat.mk _ rfl ?_ | refine VArith.fits (by unfold i64; omega) ?_ | refine vret_pf rfl ?_ | refine vret_take rfl rfl ?_ | refine vcall_pf h1 rfl rfl ?_ | refine VTch.mk _ rfl ?_)
  all_goals (try (conv => whnf))
  rfl
def underP (p : List UInt8) : PV := .fn 78 [] [.cp [sv p]]
/- the first of texts that is as told -/
def idxP (q : List UInt8 → Bool) : List (List UInt8) → Nat → Int
  | [], _ => -1
  | t :: r, i => if q t = true then i else idxP q r (i + 1)
theorem idxP_any (q : List UInt8 → Bool) : ∀ (ts : List (List UInt8)) (i : Nat), decide (0 ≤ idxP q ts i) = ts.any q
  | [], i => by simp [idxP]
  | t :: r, i => by
    rw [idxP, List.any_cons]
    by_cases h : q t = true
    · rw [if_pos h, h]
      simp
    · rw [if_neg h, idxP_any q r, Bool.eq_false_iff.2 h]
      simp
set_option maxRecDepth 100000 in
theorem idxU_can (p : List UInt8) (hp : p.length ≤ 1000000) (ns : List (List UInt8)) (b : Bool) (z : Nat) (hz : z = 1 ∨ ns = []) (hbd : ns.length ≤ 8796093022208) (hns : ∀ s ∈ ns, s.length ≤ 140737488355328) : Pf C1 128 [.sl b z (svs ns), underP p] [iv (idxP (fun s => underF s p) ns 0)] := by
  have hln : (svs ns).length = ns.length := by simp
  refine run_intro Tryz.func128 rfl rfl rfl ?_
  repeat' ((conv => whnf) ; first | refine VIf.tt rfl ?_ | refine VIf.ff rfl ?_ | refine VIf.not ?_ | refine VIf.dtt (by assumption) ?_ | refine VIf.dff (by assumption) ?_ | refine VIf.dec (fun h => ?_) (fun h => ?_) | refine VIf.tt (by assumption) ?_ | refine VIf.ff (by assumption) ?_ | refine VIf.mk (fun h => ?_) (fun h => ?_) | refine VOk.mk rfl ?_ | refine VPur.mk rfl ?_ | refine VNat.mk _ rfl ?_ | refine VArith.fits (by unfold i64; omega) ?_ | refine vret_pf rfl ?_ | refine vret_take rfl rfl ?_ | refine VTch.mk _ rfl ?_)
  all_goals (try (conv => whnf))
  refine loop_over (G := Nat) (fun i => [(8, iv i)]) (fun _ => _) (fun i => i ≤ ns.length ∧ idxP (fun s => underF s p) (ns.drop i) i = idxP (fun s => underF s p) ns 0) (fun i => ns.length - i) 0 ⟨by omega, rfl⟩ rfl rfl ?_
  rintro i ⟨hi, hall⟩
  dsimp only at hi hall ⊢
  repeat' ((conv => whnf) ; first | refine VIf.tt rfl ?_ | refine VIf.ff rfl ?_ | refine VIf.not ?_ | refine VIf.dtt (by assumption) ?_ | refine VIf.dff (by assumption) ?_ | refine VIf.dec (fun h => ?_) (fun h => ?_) | refine VIf.tt (by assumption) ?_ | refine VIf.ff (by assumption) ?_ | refine VIf.mk (fun h => ?_) (fun h => ?_) | refine VOk.mk rfl ?_ | refine VPur.mk rfl ?_ | refine VNat.mk _ rfl ?_ | refine VArith.fits (by unfold i64; omega) ?_ | refine vret_pf rfl ?_ | refine vret_take rfl rfl ?_ | refine VTch.mk _ rfl ?_)
  all_goals (try (conv => whnf))
  · have hi' : i < ns.length := by omega
    obtain ⟨c, hc⟩ : ∃ c, ns[i]? = some c := ⟨_, List.getElem?_eq_getElem hi'⟩
    have hf := free1_can c p (hns c (List.mem_of_getElem? hc)) hp
    rw [drop_at hc, idxP] at hall
    repeat' ((conv => whnf) ; first | refine VIf.tt rfl ?_ | refine VIf.ff rfl ?_ | refine VIf.not ?_ | refine VIf.dtt (by assumption) ?_ | refine VIf.dff (by assumption) ?_ | refine VIf.dec (fun h => ?_) (fun h => ?_) | refine VIf.tt (by assumption) ?_ | refine VIf.ff (by assumption) ?_ | refine VIf.mk (fun h => ?_) (fun h => ?_) | refine VOk.mk rfl ?_ | refine VPur.mk rfl ?_ | refine VNat.mk _ rfl ?_ | refine VArith.fits (by unfold i64; omega) ?_ | refine vret_pf rfl ?_ | refine vret_take rfl rfl ?_ | refine VIdx.mk _ (svs_at hc) ?_ | refine VOk.mk (szOk_of rfl (svs_nil hz)) ?_ | refine vcall_pf hf rfl rfl ?_ | refine VTch.mk _ rfl ?_)
    all_goals (try (conv => whnf))
    · rw [if_pos (by simpa using h)] at hall
      rw [← hall]
    · rw [if_neg (by simpa using h)] at hall
      exact VAgain.mk _ rfl _ (gc_take rfl rfl rfl) ⟨i + 1, ⟨hi', hall⟩, by omega, rfl⟩
  · rw [List.drop_of_length_le (by omega), idxP] at hall
    rw [← hall]
set_option maxRecDepth 100000 in
theorem anyU_can (p : List UInt8) (hp : p.length ≤ 1000000) (ns : List (List UInt8)) (b : Bool) (z : Nat) (hz : z = 1 ∨ ns = []) (hbd : ns.length ≤ 8796093022208) (hns : ∀ s ∈ ns, s.length ≤ 140737488355328) : Pf C1 82 [.sl b z (svs ns), underP p] [bv (ns.any fun s => underF s p)] := by
  have hi := idxU_can p hp ns b z hz hbd hns
  have e := idxP_any (fun s => underF s p) ns 0
  refine run_intro Tryz.func82 rfl rfl rfl ?_
  repeat' ((conv => whnf) ; first | refine VIf.tt rfl ?_ | refine VIf.ff rfl ?_ | refine VIf.not ?_ | refine VIf.dtt (by assumption) ?_ | refine VIf.dff (by assumption) ?_ | refine VIf.dec (fun h => ?_) (fun h => ?_) | refine VIf.tt (by assumption) ?_ | refine VIf.ff (by assumption) ?_ | refine VIf.mk (fun h => ?_) (fun h => ?_) | refine VOk.mk rfl ?_ | refine VPur.mk rfl ?_ | refine VNat.mk _ rfl ?_ | refine VArith.fits (by unfold i64; omega) ?_ | refine vret_pf rfl ?_ | refine vret_take rfl rfl ?_ | refine vcall_pf hi rfl rfl ?_ | refine VTch.mk _ rfl ?_)
  all_goals (try (conv => whnf))
  rw [← e]
mutual
theorem consts_names : ∀ (t : Tm) (p kk : Int), allT t p kk = true → ∀ c ∈ constsT t, nameF c = true
  | .mk k n s ls ts, p, kk, ha, c, hc => by
    obtain ⟨hk, hl, hnd, -, hts⟩ := allT_parts ha
    rw [constsT, List.mem_append] at hc
    rcases hc with hc | hc
    · split at hc
      · rename_i h3
        simp at hc
        subst hc
        simp only [nodeT, if_neg (show ¬ k = 1 by omega), if_pos h3, Bool.and_eq_true] at hnd
        exact hnd.2.1
      · simp at hc
    · exact consts_namess ts k 0 p kk hts c hc
theorem consts_namess : ∀ (ts : List Tm) (k i p kk : Int), allTs ts k i p kk = true → ∀ c ∈ constsTs ts, nameF c = true
  | [], k, i, p, kk, ha, c, hc => by simp [constsTs] at hc
  | t :: r, k, i, p, kk, ha, c, hc => by
    simp only [allTs, Bool.and_eq_true] at ha
    rw [constsTs, List.mem_append] at hc
    rcases hc with hc | hc
    · exact consts_names t p _ ha.1 c hc
    · exact consts_namess r k (i + 1) p kk ha.2 c hc
end
theorem ConstsF_names {t : Tm} {c : List UInt8} (h : c ∈ ConstsF t) : nameF c = true := by
  unfold ConstsF at h
  split at h
  · rename_i ha
    rw [nameSortF_mem] at h
    exact consts_names t 4 _ (any_parts ha).2 c h
  · simp at h
theorem name_short {c : List UInt8} (h : nameF c = true) : c.length ≤ 40 := by
  simp only [nameF, Bool.and_eq_true, decide_eq_true_eq] at h
  exact h.1
def usesF (p : List UInt8) (t : Tm) : Bool := (ConstsF t).any fun s => underF s p
set_option maxRecDepth 100000 in
theorem free2_can (p : List UInt8) (hp : p.length ≤ 1000000) (t : Tm) (v : PV) (h : TmP t v) : Pf C1 81 [v, .cp [underP p]] [bv (usesF p t)] := by
  have hc := Consts_can t v h
  have hl := ConstsF_len t
  obtain ⟨b1, z1, he, hz1⟩ := encSs_open (ConstsF t)
  have hu := anyU_can p hp (ConstsF t) b1 z1 hz1 (by omega) (fun s hs => by have := name_short (ConstsF_names hs); omega)
  rw [he] at hc
  obtain ⟨k, n, s0, ls, ts, b, z, xs, c, y, ys, rfl, rfl, -⟩ := h.open
  refine run_intro Tryz.func81 rfl rfl rfl ?_
  repeat' ((conv => whnf) ; first | refine VIf.tt rfl ?_ | refine VIf.ff rfl ?_ | refine VIf.not ?_ | refine VIf.dtt (by assumption) ?_ | refine VIf.dff (by assumption) ?_ | refine VIf.dec (fun h => ?_) (fun h => ?_) | refine VIf.tt (by assumption) ?_ | refine VIf.ff (by assumption) ?_ | refine VIf.mk (fun h => ?_) (fun h => ?_) | refine VOk.mk rfl ?_ | refine VPur.mk rfl ?_ | refine VNat.mk _ rfl ?_ | refine VArith.fits (by unfold i64; omega) ?_ | refine vret_pf rfl ?_ | refine vret_take rfl rfl ?_ | refine finds_pf hc (fun _ => ?_) | refine finds_pf hu (fun _ => ?_) | refine VTch.mk _ rfl ?_)
  all_goals (try (conv => whnf))
  rfl
def usesP (p : List UInt8) : PV := .fn 81 [] [.cp [underP p]]
set_option maxRecDepth 100000 in
theorem idxUses_can (p : List UInt8) (hp : p.length ≤ 1000000) (ts : List Tm) (b : Bool) (z : Nat) (xs : List PV) (hz : z = 5 ∨ xs = []) (hxs : TmsP ts xs) (hbd : ts.length ≤ 1759218604441) : Pf C1 127 [.sl b z xs, usesP p] [iv (idxT (usesF p) ts 0)] := by
  have hlen := hxs.len
  refine run_intro Tryz.func127 rfl rfl rfl ?_
  repeat' ((conv => whnf) ; first | refine VIf.tt rfl ?_ | refine VIf.ff rfl ?_ | refine VIf.not ?_ | refine VIf.dtt (by assumption) ?_ | refine VIf.dff (by assumption) ?_ | refine VIf.dec (fun h => ?_) (fun h => ?_) | refine VIf.tt (by assumption) ?_ | refine VIf.ff (by assumption) ?_ | refine VIf.mk (fun h => ?_) (fun h => ?_) | refine VOk.mk rfl ?_ | refine VPur.mk rfl ?_ | refine VNat.mk _ rfl ?_ | refine VArith.fits (by unfold i64; omega) ?_ | refine vret_pf rfl ?_ | refine vret_take rfl rfl ?_ | refine VTch.mk _ rfl ?_)
  all_goals (try (conv => whnf))
  refine loop_over (G := Nat) (fun i => [(8, iv i)]) (fun _ => _) (fun i => i ≤ ts.length ∧ idxT (usesF p) (ts.drop i) i = idxT (usesF p) ts 0) (fun i => ts.length - i) 0 ⟨by omega, rfl⟩ rfl rfl ?_
  rintro i ⟨hi, hall⟩
  dsimp only at hi hall ⊢
  repeat' ((conv => whnf) ; first | refine VIf.tt rfl ?_ | refine VIf.ff rfl ?_ | refine VIf.not ?_ | refine VIf.dtt (by assumption) ?_ | refine VIf.dff (by assumption) ?_ | refine VIf.dec (fun h => ?_) (fun h => ?_) | refine VIf.tt (by assumption) ?_ | refine VIf.ff (by assumption) ?_ | refine VIf.mk (fun h => ?_) (fun h => ?_) | refine VOk.mk rfl ?_ | refine VPur.mk rfl ?_ | refine VNat.mk _ rfl ?_ | refine VArith.fits (by unfold i64; omega) ?_ | refine vret_pf rfl ?_ | refine vret_take rfl rfl ?_ | refine VTch.mk _ rfl ?_)
  all_goals (try (conv => whnf))
  · have hi' : i < ts.length := by omega
    obtain ⟨tc, htc⟩ : ∃ tc, ts[i]? = some tc := ⟨_, List.getElem?_eq_getElem hi'⟩
    obtain ⟨v, hv, hl⟩ := hxs.at htc
    have hw := free2_can p hp tc v hl
    obtain ⟨k1, n1, s1, l1, t1, b1, z1, x1, c1, y1, ys1, rfl, rfl, hz1, hxs1, hlen1, hbd1, hy1, hys1, hlen21, hbd21, hsl1⟩ := hl.open
    rw [drop_at htc, idxT] at hall
    repeat' ((conv => whnf) ; first | refine VIf.tt rfl ?_ | refine VIf.ff rfl ?_ | refine VIf.not ?_ | refine VIf.dtt (by assumption) ?_ | refine VIf.dff (by assumption) ?_ | refine VIf.dec (fun h => ?_) (fun h => ?_) | refine VIf.tt (by assumption) ?_ | refine VIf.ff (by assumption) ?_ | refine VIf.mk (fun h => ?_) (fun h => ?_) | refine VOk.mk rfl ?_ | refine VPur.mk rfl ?_ | refine VNat.mk _ rfl ?_ | refine VArith.fits (by unfold i64; omega) ?_ | refine vret_pf rfl ?_ | refine vret_take rfl rfl ?_ | refine VIdx.mk _ hv ?_ | refine VOk.mk (szOk_of rfl hz) ?_ | refine vcall_pf hw rfl rfl ?_ | refine VTch.mk _ rfl ?_)
    all_goals (try (conv => whnf))
    · rw [if_pos (by simpa using h)] at hall
      rw [← hall]
    · rw [if_neg (by simpa using h)] at hall
      exact VAgain.mk _ rfl _ (gc_take rfl rfl rfl) ⟨i + 1, ⟨hi', hall⟩, by omega, rfl⟩
  · rw [List.drop_of_length_le (by omega), idxT] at hall
    rw [← hall]
set_option maxRecDepth 100000 in
theorem anyUses_can (p : List UInt8) (hp : p.length ≤ 1000000) (ts : List Tm) (b : Bool) (z : Nat) (xs : List PV) (hz : z = 5 ∨ xs = []) (hxs : TmsP ts xs) (hbd : ts.length ≤ 1759218604441) : Pf C1 80 [.sl b z xs, usesP p] [bv (ts.any (usesF p))] := by
  have hi := idxUses_can p hp ts b z xs hz hxs hbd
  have e := idxT_any (usesF p) ts 0
  refine run_intro Tryz.func80 rfl rfl rfl ?_
  repeat' ((conv => whnf) ; first | refine VIf.tt rfl ?_ | refine VIf.ff rfl ?_ | refine VIf.not ?_ | refine VIf.dtt (by assumption) ?_ | refine VIf.dff (by assumption) ?_ | refine VIf.dec (fun h => ?_) (fun h => ?_) | refine VIf.tt (by assumption) ?_ | refine VIf.ff (by assumption) ?_ | refine VIf.mk (fun h => ?_) (fun h => ?_) | refine VOk.mk rfl ?_ | refine VPur.mk rfl ?_ | refine VNat.mk _ rfl ?_ | refine VArith.fits (by unfold i64; omega) ?_ | refine vret_pf rfl ?_ | refine vret_take rfl rfl ?_ | refine vcall_pf hi rfl rfl ?_ | refine VTch.mk _ rfl ?_)
  all_goals (try (conv => whnf))
  rw [← e]
/-- a top under which no constant of a term stands -/
def FreeOk (t : Tm) (m : Nat) : Prop := m ≤ 2000 ∧ usesF (topF m) t = false
set_option maxRecDepth 100000 in
theorem free_can (t : Tm) (v : PV) (h : TmP t v) (b : Bool) : ∃ m, FreeOk t m ∧ Pf C1 42 [.sl b 5 [v]] [sv (topF m)] := by
  have key : Finds C1 42 [.sl b 5 [v]] [] fun r _ => ∃ m, FreeOk t m ∧ r = .ret [sv (topF m)] := by
    refine run_intro Tryz.func42 rfl rfl rfl ?_
    repeat' ((conv => whnf) ; first | refine VIf.tt rfl ?_ | refine VIf.ff rfl ?_ | refine VIf.not ?_ | refine VIf.dtt (by assumption) ?_ | refine VIf.dff (by assumption) ?_ | refine VIf.dec (fun h => ?_) (fun h => ?_) | refine VIf.tt (by assumption) ?_ | refine VIf.ff (by assumption) ?_ | refine VIf.mk (fun h => ?_) (fun h => ?_) | refine VOk.mk rfl ?_ | refine VPur.mk rfl ?_ | refine VNat.mk _ rfl ?_ | refine VArith.fits (by unfold i64; omega) ?_ | refine vret_pf rfl ?_ | refine vret_take rfl rfl ?_ | refine VTch.mk _ rfl ?_)
    all_goals (try (conv => whnf))
    refine loop_over (G := Nat) (fun m => [(3, iv m)]) (fun _ => []) (fun m => m + cntU (ConstsF t) m ≤ 2000) (fun m => cntU (ConstsF t) m) 0 (by have := cntU_le (ConstsF t) 0; have := ConstsF_len t; omega) rfl rfl ?_
    intro m hm
    have hit := itoaN_can m (by omega)
    have hml : (Lib.decDigits m).length ≤ 4 := dec_len 3 m (by omega)
    have hap := anyUses_can (topF m) (by simp only [topF, List.length_cons]; omega) [t] b 5 [v] (.inl rfl) (by simp only [TmsP]; exact ⟨_, _, rfl, h, rfl⟩) (by simp)
    repeat' ((conv => whnf) ; first | refine VIf.tt rfl ?_ | refine VIf.ff rfl ?_ | refine VIf.not ?_ | refine VIf.dtt (by assumption) ?_ | refine VIf.dff (by assumption) ?_ | refine VIf.dec (fun h => ?_) (fun h => ?_) | refine VIf.tt (by assumption) ?_ | refine VIf.ff (by assumption) ?_ | refine VIf.mk (fun h => ?_) (fun h => ?_) | refine VOk.mk rfl ?_ | refine VPur.mk rfl ?_ | refine VNat.mk _ rfl ?_ | refine VArith.fits (by unfold i64; omega) ?_ | refine vret_pf rfl ?_ | refine vret_take rfl rfl ?_ | refine vcall_pf hit rfl rfl ?_ | refine vres_str ?_ | refine VOk.mk (decide_eq_true (by simp only [List.length_cons, List.length_nil]; omega)) ?_ | refine VTch.mk _ rfl ?_)
    all_goals (try (conv => whnf))
    have e : [t].any (usesF (topF m)) = usesF (topF m) t := by simp
    rw [e] at hap
    refine vcall_hand (args' := [.sl b 5 [v], usesP (topF m)]) rfl rfl hap rfl ?_
    repeat' ((conv => whnf) ; first | refine VIf.tt rfl ?_ | refine VIf.ff rfl ?_ | refine VIf.not ?_ | refine VIf.dtt (by assumption) ?_ | refine VIf.dff (by assumption) ?_ | refine VIf.dec (fun h => ?_) (fun h => ?_) | refine VIf.tt (by assumption) ?_ | refine VIf.ff (by assumption) ?_ | refine VIf.mk (fun h => ?_) (fun h => ?_) | refine VOk.mk rfl ?_ | refine VPur.mk rfl ?_ | refine VNat.mk _ rfl ?_ | refine VArith.fits (by unfold i64; omega) ?_ | refine vret_pf rfl ?_ | refine vret_take rfl rfl ?_ | refine VTch.mk _ rfl ?_)
    all_goals (try (conv => whnf))
    · have := cntU_step (l := ConstsF t) (n := m) (by assumption)
      exact VAgain.mk _ rfl _ rfl ⟨m + 1, by omega, this, rfl⟩
    · exact ⟨m, ⟨by omega, by assumption⟩, rfl⟩
  obtain ⟨r, st', ⟨m, hm, rfl⟩, N, hN⟩ := key
  exact ⟨m, hm, ⟨_, st', rfl, N, hN⟩⟩
theorem encSs_pos {l : List (List UInt8)} (h : 0 < l.length) : encSs l = .sl false 1 (svs l) := by
  cases l with
  | nil => simp at h
  | cons d r => rfl
set_option maxRecDepth 100000 in
theorem Names_can (n : Int) (hn : 0 ≤ n ∧ n ≤ 200) (t : Tm) (v : PV) (h : TmP t v) (b : Bool) : ∃ m, FreeOk t m ∧ Pf C1 11 [iv n, .sl b 5 [v]] [encSs (namesF m n.toNat)] := by
  obtain ⟨m, hm, hf⟩ := free_can t v h b
  refine ⟨m, hm, ?_⟩
  have hml : (Lib.decDigits m).length ≤ 4 := dec_len 3 m (by have := hm.1; omega)
  have hn0 : ¬ n < 0 := by omega
  have hn1 : ¬ (200 : Int) < n := by omega
  refine run_intro Tryz.func11 rfl rfl rfl ?_
  repeat' ((conv => whnf) ; first | refine VIf.tt rfl ?_ | refine VIf.ff rfl ?_ | refine VIf.not ?_ | refine VIf.dtt (by assumption) ?_ | refine VIf.dff (by assumption) ?_ | refine VIf.dec (fun h => ?_) (fun h => ?_) | refine VIf.tt (by assumption) ?_ | refine VIf.ff (by assumption) ?_ | refine VIf.mk (fun h => ?_) (fun h => ?_) | refine VOk.mk rfl ?_ | refine VPur.mk rfl ?_ | refine VNat.mk _ rfl ?_ | refine VArith.fits (by unfold i64; omega) ?_ | refine vret_pf rfl ?_ | refine vret_take rfl rfl ?_ | refine vcall_pf hf rfl rfl ?_ | refine VTch.mk _ rfl ?_)
  all_goals (try (conv => whnf))
  refine loop_over (G := Nat) (fun i => [(17, iv i), (6, match i with
      | 0 => .sl true 0 []
      | j + 1 => .ms 0 (j + 1))]) (fun i => match i with
      | 0 => []
      | j + 1 => [.row false 9 1 (svs (namesF m (j + 1)))]) (fun i => (i : Int) ≤ n) (fun i => n.toNat - i) 0 (by omega) rfl rfl ?_
  intro i hi
  have hit := itoaN_can i (by omega)
  have hil : (Lib.decDigits i).length ≤ 4 := dec_len 3 i (by omega)
  have e : svs (namesF m (i + 1)) = svs (namesF m i) ++ [sv (xF m i)] := by simp [svs, namesF, List.range_succ]
  have hx : topF m ++ [46, 120] ++ Lib.decDigits i = xF m i := rfl
  cases i with
  | zero =>
    repeat' ((conv => whnf) ; first | refine VIf.tt rfl ?_ | refine VIf.ff rfl ?_ | refine VIf.not ?_ | refine VIf.dtt (by assumption) ?_ | refine VIf.dff (by assumption) ?_ | refine VIf.dec (fun h => ?_) (fun h => ?_) | refine VIf.tt (by assumption) ?_ | refine VIf.ff (by assumption) ?_ | refine VIf.mk (fun h => ?_) (fun h => ?_) | refine VOk.mk rfl ?_ | refine VPur.mk rfl ?_ | refine VNat.mk _ rfl ?_ | refine VArith.fits (by unfold i64; omega) ?_ | refine vret_pf rfl ?_ | refine vret_take rfl rfl ?_ | refine vcall_pf hit rfl rfl ?_ | refine vres_str ?_ | refine VOk.mk (decide_eq_true (by simp only [topF, List.length_append, List.length_cons, List.length_nil]; omega)) ?_ | refine VTch.mk _ rfl ?_)
    all_goals (try (conv => whnf))
    · have e0 : svs (namesF m (0 + 1)) = [sv (topF m ++ [46, 120] ++ Lib.decDigits 0)] := by rw [e]; rfl
      exact VAgain.mk _ rfl _ (gc_sh (.cons (sh_row rfl) .nil) (.cons (sh_row rfl) .nil) rfl rfl rfl rfl rfl) ⟨1, by omega, by omega, congrArg (fun t => (⟨_, [.row false _ 1 t]⟩ : AS)) e0.symm⟩
    · rw [show n.toNat = 0 by omega]
      rfl
  | succ i =>
    have hln : (svs (namesF m (i + 1))).length = i + 1 := by simp [namesF_length]
    have hp8 : (svs (namesF m (i + 1)) ++ [sv (topF m ++ [46, 120] ++ Lib.decDigits (i + 1))]).all (pur 8) = true := by
      rw [hx, ← e]
      exact svs_pure _
    repeat' ((conv => whnf) ; first | refine VIf.tt rfl ?_ | refine VIf.ff rfl ?_ | refine VIf.not ?_ | refine VIf.dtt (by assumption) ?_ | refine VIf.dff (by assumption) ?_ | refine VIf.dec (fun h => ?_) (fun h => ?_) | refine VIf.tt (by assumption) ?_ | refine VIf.ff (by assumption) ?_ | refine VIf.mk (fun h => ?_) (fun h => ?_) | refine VOk.mk rfl ?_ | refine VPur.mk rfl ?_ | refine VNat.mk _ rfl ?_ | refine VArith.fits (by unfold i64; omega) ?_ | refine vret_pf rfl ?_ | refine vret_take rfl rfl ?_ | refine vcall_pf hit rfl rfl ?_ | refine vres_str ?_ | refine VOk.mk (decide_eq_true (by simp only [topF, List.length_append, List.length_cons, List.length_nil]; omega)) ?_ | refine VOk.mk (grow_ok (w := 16) (r := 140737488355328) hln rfl rfl rfl rfl (by simp only [List.length_cons, List.length_nil]; omega) (by simp only [List.length_cons, List.length_nil]; omega)) ?_ | refine VTch.mk _ rfl ?_)
    all_goals (try (conv => whnf))
    · exact VAgain.mk _ rfl _ (gc_sh (.cons (sh_row hp8) .nil) (.cons (sh_row hp8) .nil) rfl rfl rfl rfl rfl) ⟨i + 1 + 1, by omega, by omega, congrArg (fun t => (⟨_, [.row false _ 1 t]⟩ : AS)) e.symm⟩
    · rw [show n.toNat = i + 1 by omega, encSs_pos (by rw [namesF_length]; omega)]
      refine vret_row rfl rfl hln.symm (svs_pure6 _) ?_
      rfl
end Go.Proofs.YtehhihdahalfeaaGreatDoor

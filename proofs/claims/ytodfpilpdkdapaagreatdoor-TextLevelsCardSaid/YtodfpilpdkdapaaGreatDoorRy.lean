/-
  TextLevels: for every input the call returns true, and each argument reads afterwards as it read before; the tied card.
-/
import Derived.Test.YtodfpilpdkdapaaGreatDoorPw
import Derived.Test.YtodfpilpdkdapaaGreatDoorRb
import Derived.Test.YtodfpilpdkdapaaGreatDoorRows
import Derived.Test.YtodfpilpdkdapaaGreatDoorCards
import Derived.Test.YtodfpilpdkdapaaGreatDoorTie
import Derived.JoinedOf
import Derived.LaidMore
import Derived.Lay
import Derived.Stop.LaidErr
import Derived.SevenTiedAt
import Derived.Stop.Joined
namespace Go.Proofs.YtodfpilpdkdapaaGreatDoor.textLevels
open Go Go.ChangeShapes Go.WideShapes Go.ChangeAt Go.RowKit
set_option linter.unusedVariables false

theorem rowOwn : ownKnob Tryz.prog.godebug = none := by kernel_rfl
theorem rowLaid : laidOutB Tryz.prog = true := by kernel_rfl
theorem readLevel : Tryz.prog.readableRec 24 = true ∧ 24 < Tryz.prog.types.size := ⟨by kernel_rfl, of_decide_eq_true (by kernel_rfl)⟩

theorem base_of {W : World} (h : laidMetH Tryz.prog Rows.textLevelsRow.laid W) : ∀ b cs, Hb.base b = some cs → ∃ T fr, W.heap[b]? = some (.cells cs T fr) := by
  rw [MakeChecks.laidMetH_plain _ _ _ (by kernel_rfl)] at h
  have h2 : laidMet Tryz.prog (("internal/strconv.uint64pow10", Lib.tabData .u64 Lib.pow10Tab) :: Rows.textLevelsRow.laid.drop 3) W := laidMet.tail (laidMet.tail h)
  have ht := Lib.tabIs_of_head (g := 0) (by kernel_rfl) (by kernel_rfl) Tryz.underlying133 Tryz.underlying111 (by kernel_rfl) (by kernel_rfl) h2
  intro b cs hb
  unfold Hb.base at hb
  split at hb
  · rename_i e
    subst e
    cases hb
    unfold Lib.TabIs World.var? at ht
    rw [show Tryz.prog.globalNamed "internal/strconv.uint64pow10" = some 0 by kernel_rfl, Option.bind_some] at ht
    split at ht
    · rename_i c T fr e
      cases ht
      exact ⟨T, fr, e⟩
    · cases ht
  · cases hb

section
variable {H : Type} {enc : TypeId × Value → H} {W : World} {r : Reach} {b0 : Nat} {v : Value} {d : DataW H} {ps : List MemPlace}
set_option maxRecDepth 100000 in
theorem level_arg (hv : Value.okWide Tryz.prog W r b0 24 v) (h : DataW.Trod enc Tryz.prog W 0 (fun _ => true) true 24 v d ps) (hw : ∀ n ∈ d.weights Tryz.prog 24, n ≤ reachBytes) :
    ∃ l pv, LvP l pv ∧ Am.R (memB W) Am.noPh pv v := by
  obtain ⟨cs, rfl, hsz⟩ := okWide_struct Tryz.underlying24 hv
  obtain ⟨fuel, hf⟩ := h
  obtain ⟨l, ps, h1, h2, h3, h4⟩ := lvp_of Tryz.underlying24 Tryz.underlying22 Tryz.underlying3 (by kernel_rfl) (by kernel_rfl) (by kernel_rfl) (by kernel_rfl) rfl rfl rfl rfl rfl rfl fuel _ _ hf hw
  refine ⟨l, .ag ps, h1, ?_⟩
  have h2' : Am.Rl (memB W) Am.noPh ps cs.toList := by simpa [Value.cells] using h2
  have := Am.R.ag h2'.1 h3 h2'.2
  simpa using this
end

set_option maxRecDepth 100000 in
theorem lifted (os : Os) (started : os.Started) (H : Type) (enc : TypeId × Value → H) :
    ReturnsInHanded {} Tryz.checked os 3 .any (fun w args => (Rows.textLevelsSpec.pre enc Tryz.prog Tryz.f3 Rows.textLevelsRow.domain false w args ∧ laidMetH Tryz.prog Rows.textLevelsRow.laid w) ∧ sizedMet enc Tryz.prog Tryz.f3 (OpenSpec.ofChange Rows.textLevelsSpec) false w args)
      (Rows.textLevelsSpec.post enc Tryz.prog Tryz.f3 false true false false) := by
  refine returnsInHanded_of_change_and (C := Tryz.checked) (X := fun w _ => laidMetH Tryz.prog Rows.textLevelsRow.laid w) (fun _ _ _ hh h => h.of_heap hh) rowOwn started (by kernel_rfl) Tryz.func3
    (ChangeSpec.witness_shaped (enc := enc) (C := Tryz.checked) (os := os) (X := fun w _ => laidMetH Tryz.prog Rows.textLevelsRow.laid w) false (World.laidAll Tryz.prog os Rows.textLevelsRow.laid) #[.agg #[.int .i64 0, .int .i64 0, .slice none 0 0], .agg #[.int .i64 0, .int .i64 0, .slice none 0 0]] 8 (World.laidAll_os _ _ _)
      (World.shaped_of_ZipB (by kernel_rfl) (by kernel_rfl)) (by kernel_rfl) (by kernel_rfl) (by kernel_rfl)
      (by rw [MakeChecks.laidMetH_plain _ _ _ (by kernel_rfl)]; exact laidMet_laidAll _ (by kernel_rfl) (by kernel_rfl))) ?_
  intro W base args ds gs before hval0 hW _ hsz hL _
  have hval : ∀ (j : Nat) t v, Tryz.f3.params[j]? = some t → args[j]? = some v → Value.okWide Tryz.prog W .any base t v := hval0
  have hW' := hW
  obtain ⟨p, q, hA0, hV, rfl, hfz, hnd⟩ := hW
  have hA : DataW.TrodAll enc Tryz.prog W 0 (fun _ => true) true Tryz.f3.params.toList args.toList ds p := hA0
  rw [Tryz.params3] at hA hval
  obtain ⟨v0, vs0, d0, ds0, p0, q0, hargs, rfl, rfl, h0, r0⟩ := trodAll_cons hA
  obtain ⟨v1, vs1, d1, ds1, p1, q1, rfl, rfl, rfl, h1, r1⟩ := trodAll_cons r0
  obtain ⟨rfl, rfl, rfl⟩ := trodAll_nil r1
  obtain rfl : args = #[v0, v1] := by cases args; simp_all
  obtain ⟨rfl, rfl⟩ := trodVars_none hV
  have hw : ∀ (j : Nat) (t : TypeId) (d : DataW H), (Tryz.f3.params.toList ++ Rows.textLevelsSpec.plain.varTypes Tryz.prog)[j]? = some t → ([d0, d1] ++ [])[j]? = some d → ∀ n ∈ d.weights Tryz.prog t, n ≤ reachBytes := fun j t d ht hd n hn => by
    have := List.all_eq_true.1 hsz n (DataW.weights_mem_each (j := j) ht hd n hn)
    simpa using this
  obtain ⟨l0, c0, hl0, hr0⟩ := level_arg (hval 0 24 v0 rfl rfl) h0 (hw 0 _ _ rfl rfl)
  obtain ⟨l1, c1, hl1, hr1⟩ := level_arg (hval 1 24 v1 rfl rfl) h1 (hw 1 _ _ rfl rfl)
  refine (calls_of_pf (C := C1) c1_ok (TextLevels_can l0 l1 c0 c1 hl0 hl1) (base_of hL) (.cons hr0 (.cons hr1 .nil))).mono ?_
  rintro e W' ⟨m', φ', us, rfl, hus, hb⟩
  obtain ⟨u, us', rfl, hu, hus'⟩ := hus.uncons
  obtain rfl : us' = [] := List.eq_nil_of_length_eq_zero hus'.1.symm
  obtain rfl := hu.sc_eq
  refine ⟨_, rfl, Gw.post_low hW' hb rowLaid (by
    rw [Tryz.params3]
    intro t ht
    simp only [List.mem_cons, List.not_mem_nil, or_false] at ht
    rcases ht with rfl | rfl
    · exact readLevel
    · exact readLevel) rfl rfl rfl (fun b sp hd => ?_) (ok_one (by kernel_rfl) rfl (okWide_bool_mk Tryz.underlying4 _))⟩
  exact trodAll_mk1 (shut_bool Tryz.underlying4 true)

theorem proved : Rows.TextLevelsSaid :=
  OpenClaim.holds_of_wide 3 Tryz.f3 rfl rfl rfl rfl rfl rfl rfl ⟨rfl, rfl, rfl, rfl, rfl⟩ rfl rfl rfl rfl rfl (by kernel_rfl) Tryz.func3 (by kernel_rfl)
    (of_decide_eq_true (by kernel_rfl)) (by unfold Func.isWrapper; first | (rw [if_pos (by decide +kernel)]; kernel_rfl) | (rw [if_neg (by decide +kernel)]; exact ⟨rfl, rfl⟩))
    (fun os started H enc _ => lifted os started H enc)

theorem card : Rows.TextLevelsCardSaid :=
  Claim7.holds_tied_plain_at .later [] [.data, .data, .data, .data, .sentinel, .sentinel, .pinned] true (true, "4053d9207ecafb5f1accfa95730c696eb6b31bac051e94726ea641a8a505d68b") true
    proved (fun _ h => by cases h) (by kernel_rfl) (fun _ h => by cases h) textLevels_row_tie rfl ⟨rfl, rfl⟩ (by kernel_rfl) rfl
    (fun f fn hf hfn => by
      obtain rfl : f = 3 := Option.some.inj ((show Tryz.prog.funcNamed "scholium/scholiumlaw07.TextLevels" = some 3 by kernel_rfl).symm.trans hf) |>.symm
      obtain rfl : fn = Tryz.f3 := (Option.some.inj (Tryz.func3.symm.trans hfn)).symm
      exact ⟨by kernel_rfl, fun j t ht => by
        rw [Tryz.params3] at ht
        have h3 : t = 24 := by
          rcases j with _ | _ | j
          · simpa using ht.symm
          · simpa using ht.symm
          · simp at ht
        subst h3
        exact (show Tryz.prog.wantsStandIn 24 = false by kernel_rfl)⟩)
    (by kernel_rfl)

end Go.Proofs.YtodfpilpdkdapaaGreatDoor.textLevels

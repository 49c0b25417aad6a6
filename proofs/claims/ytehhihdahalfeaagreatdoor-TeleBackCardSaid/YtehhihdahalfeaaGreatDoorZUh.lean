/-
  What package tele opens. No statement of the seat.
-/
import Derived.Test.YtehhihdahalfeaaGreatDoorZUf
import Derived.Test.YtehhihdahalfeaaGreatDoorZNk
import Derived.Test.YtehhihdahalfeaaGreatDoorZUe
set_option linter.unusedVariables false
set_option linter.unusedSimpArgs false
set_option linter.unnecessarySimpa false
namespace Go.Proofs.YtehhihdahalfeaaGreatDoor
open Go Go.Am Go.Gw
def encLo (x : List UInt8 × Tm) : PV := .ag (sv x.1 :: (encT x.2).cells)
def encLos (l : List (List UInt8 × Tm)) : PV := match l with
  | [] => .sl true 0 []
  | x :: r => .sl false 6 ((x :: r).map encLo)
def openV (o : Option (List (List UInt8 × Tm) × Tm)) : List PV := match o with
  | some (l, b) => [encLos l, encT b, bv true]
  | none => [.sl true 0 [], encT tz, bv false]
theorem splitF_w {kind : Int} : ∀ {n : Nat} {t : Tm} {ss : List Tm} {body : Tm}, TmW t → splitF kind n t = some (ss, body) → ss.length = n ∧ (∀ s ∈ ss, TmW s) ∧ TmW body
  | 0, t, ss, body, hw, h => by
    simp only [splitF, Option.some.injEq, Prod.mk.injEq] at h
    obtain ⟨rfl, rfl⟩ := h
    exact ⟨rfl, by simp, hw⟩
  | n + 1, .mk k nn s ls ts, ss, body, hw, h => by
    unfold splitF at h
    split at h
    · rename_i a b
      split at h
      · have hwa := hw.args.1
        cases hb : splitF kind n b with
        | none => rw [hb] at h; cases h
        | some r =>
          obtain ⟨r1, r2⟩ := r
          rw [hb] at h
          simp only [Option.map_some, Option.some.injEq, Prod.mk.injEq] at h
          obtain ⟨rfl, rfl⟩ := h
          obtain ⟨h1, h2, h3⟩ := splitF_w (hwa b (by simp)) hb
          refine ⟨by simp [h1], fun x hx => ?_, h3⟩
          rcases List.mem_cons.1 hx with rfl | hx
          · exact hwa _ (by simp)
          · exact h2 x hx
      · cases h
    · cases h
theorem SplitF_w {t : Tm} {kind n : Int} {ss : List Tm} {body : Tm} (hw : TmW t) (h : SplitF t kind n = some (ss, body)) : (ss.length : Int) = n ∧ (∀ s ∈ ss, TmW s) ∧ TmW body := by
  unfold SplitF at h
  split at h
  · rename_i hc
    simp only [Bool.and_eq_true, decide_eq_true_eq] at hc
    obtain ⟨h1, h2⟩ := splitF_w hw h
    exact ⟨by omega, h2⟩
  · cases h
theorem InstF_w {t x : Tm} {us : List Tm} (hw : TmW t) (hu : ∀ u ∈ us, TmW u) (h : InstF t us = some x) : TmW x := by
  unfold InstF at h
  split at h
  · rename_i hc
    obtain ⟨h1, h2, h3⟩ := hc
    have := any_dep h1
    exact madeF_ok (insF_put hu (List.all_eq_true.1 h3) h2) hw (any_parts h1).2 (by omega) (by omega) this h
  · cases h
theorem cn_w {s : List UInt8} (h : s.length ≤ 140737488355328) : TmW (cn s) := by
  unfold TmW cn
  rw [encT_mk]
  simp only [TmP, TmsP, LvsP, encLv, encTv]
  exact ⟨_, _, _, _, _, _, rfl, .inr rfl, rfl, by simp, .inr rfl, rfl, by simp, h, by unfold i64; omega⟩
theorem encTv_ok {ts : List Tm} (h : ∀ t ∈ ts, TmW t) : ∃ b z xs, encTv ts = .sl b z xs ∧ (z = 5 ∨ xs = []) ∧ TmsP ts xs := by
  cases ts with
  | nil => exact ⟨_, _, _, rfl, .inr rfl, by simp only [TmsP]⟩
  | cons t r => exact ⟨_, _, _, rfl, .inl rfl, by rw [encTs_eq]; exact tmsP_enc h⟩
def LoW (x : List UInt8 × Tm) : Prop := TmW x.2 ∧ x.1.length ≤ 140737488355328
theorem lo_enc {x : List UInt8 × Tm} (h : LoW x) : LoP x (encLo x) := by
  obtain ⟨k, n, s, b, z, xs, c, y, ys, he⟩ := encT_open x.2
  refine ⟨_, rfl, ?_, h.2⟩
  have := h.1
  unfold TmW at this
  rw [he] at this ⊢
  exact this
theorem los_enc : ∀ {l : List (List UInt8 × Tm)}, (∀ x ∈ l, LoW x) → LosP l (l.map encLo)
  | [], _ => by simp only [List.map_nil, LosP]
  | x :: r, h => by
    simp only [List.map_cons, LosP]
    exact ⟨_, _, rfl, lo_enc (h x (by simp)), los_enc fun y hy => h y (by simp [hy])⟩
theorem encLo_pure (x : List UInt8 × Tm) (n : Nat) : pur (n + 2) (encLo x) = true := by
  obtain ⟨k, nn, s, b, z, xs, c, y, ys, he⟩ := encT_open x.2
  unfold encLo
  rw [he]
  rfl
theorem encLos_pure (l : List (List UInt8 × Tm)) (n : Nat) : (l.map encLo).all (pur (n + 2)) = true := by
  rw [List.all_eq_true]
  intro x hx
  obtain ⟨l, _, rfl⟩ := List.mem_map.1 hx
  exact encLo_pure l n
set_option maxHeartbeats 4000000 in
set_option maxRecDepth 100000 in
theorem Open_can (t : Tm) (v : PV) (hT : TmP t v) (kind : Int) (ns : List (List UInt8)) (nb : Bool) (nz : Nat) (hnz : nz = 1 ∨ ns = []) (hnl : ns.length ≤ 2000) (hns : ∀ s ∈ ns, s.length ≤ 140737488355328) : Pf C1 12 [v, iv kind, .sl nb nz (svs ns)] (openV (OpenF t kind ns)) := by
  have hsp := Split_can t v hT kind ((svs ns).length : Nat)
  have hof : OpenF t kind ns = match SplitF t kind ns.length with
    | none => none
    | some (ss, body) => match opT [] ss ns with
      | none => none
      | some l => match InstF body (l.map fun x => cn x.1) with
        | none => none
        | some b => some (l, b) := rfl
  have hll : ((svs ns).length : Int) = ns.length := by simp
  rw [hll] at hsp
  obtain ⟨k0, nn0, s0, ls0, ts0, b0, z0, xs0, c0, y0, ys0, rfl, rfl, -⟩ := hT.open
  refine run_intro Tryz.func12 rfl rfl rfl ?_
  cases hs : SplitF (.mk k0 nn0 s0 ls0 ts0) kind ns.length with
  | none =>
    rw [hs] at hsp hof
    simp only [splitV] at hsp
    rw [hof]
    rw [← hll] at hsp
    repeat' ((conv => whnf) ; first | refine VIf.tt rfl ?_ | refine VIf.ff rfl ?_ | refine VIf.not ?_ | refine VIf.dtt (by assumption) ?_ | refine VIf.dff (by assumption) ?_ | refine VIf.dec (fun h => ?_) (fun h => ?_) | refine VIf.tt (by assumption) ?_ | refine VIf.ff (by assumption) ?_ | refine VIf.mk (fun h => ?_) (fun h => ?_) | refine VOk.mk rfl ?_ | refine VPur.mk rfl ?_ | refine VNat.mk _ rfl ?_ | refine VArith.fits (by unfold i64; omega) ?_ | refine vret_pf rfl ?_ | refine vret_take rfl rfl ?_ | refine vcall_pf hsp rfl rfl ?_ | refine VTch.mk _ rfl ?_)
    all_goals (try (conv => whnf))
    rfl
  | some p =>
    obtain ⟨ss, body⟩ := p
    rw [hs] at hsp hof
    simp only [splitV] at hsp
    simp only at hof
    rw [← hll] at hsp
    obtain ⟨hlen, hssw, hbw⟩ := SplitF_w hT.w hs
    obtain ⟨k9, n9, s9, b9, z9, x9, c9, y9, ys9, he9⟩ := encT_open body
    obtain ⟨c8, z8, x8, he8, hz8, hx8⟩ := encTv_ok hssw
    have hxl := hx8.len
    rw [he8, he9] at hsp
    repeat' ((conv => whnf) ; first | refine VIf.tt rfl ?_ | refine VIf.ff rfl ?_ | refine VIf.not ?_ | refine VIf.dtt (by assumption) ?_ | refine VIf.dff (by assumption) ?_ | refine VIf.dec (fun h => ?_) (fun h => ?_) | refine VIf.tt (by assumption) ?_ | refine VIf.ff (by assumption) ?_ | refine VIf.mk (fun h => ?_) (fun h => ?_) | refine VOk.mk rfl ?_ | refine VPur.mk rfl ?_ | refine VNat.mk _ rfl ?_ | refine VArith.fits (by unfold i64; omega) ?_ | refine vret_pf rfl ?_ | refine vret_take rfl rfl ?_ | refine vcall_pf hsp rfl rfl ?_ | refine VTch.mk _ rfl ?_)
    all_goals (try (conv => whnf))
    refine loop_over (G := List (List UInt8 × Tm) × Bool) (fun g => [(31, iv g.1.length), (12, match g.1 with
        | [] => .sl true 0 []
        | _ :: r => .ms 5 (r.length + 1))]) (fun g => match g.1 with
        | [] => [.box 25 [iv k0, iv nn0, sv s0, .sl b0 z0 xs0, .sl c0 y0 ys0], .box 25 zTm, .box 25 [iv k9, iv n9, sv s9, .sl b9 z9 x9, .sl c9 y9 ys9]]
        | x :: r => [.box 25 [iv k0, iv nn0, sv s0, .sl b0 z0 xs0, .sl c0 y0 ys0], .box 25 zTm, .box 25 [iv k9, iv n9, sv s9, .sl b9 z9 x9, .sl c9 y9 ys9], .dead, .dead, .row g.2 40 6 ((x :: r).map encLo)]) (fun g => g.1.length ≤ ss.length ∧ (∀ x ∈ g.1, LoW x) ∧ opT g.1 (ss.drop g.1.length) (ns.drop g.1.length) = opT [] ss ns) (fun g => ss.length - g.1.length) ([], false) ⟨by simp, by simp, by simp⟩ rfl rfl ?_
    rintro ⟨don, pf⟩ ⟨hdl, hdw, hop⟩
    dsimp only at hdl hdw hop ⊢
    have hnl2 : ns.length = ss.length := by omega
    have husw : ∀ u ∈ don.map (fun x => cn x.1), TmW u := fun u hu => by
      obtain ⟨x, hx, rfl⟩ := List.mem_map.1 hu
      exact cn_w (hdw x hx).2
    obtain ⟨cb, cz, cxs, hce, hcz, hcx⟩ := encTv_ok husw
    have hround : ∀ (hj : don.length < ss.length), ∃ s n, ss[don.length]? = some s ∧ ns[don.length]? = some n ∧ n.length ≤ 140737488355328 ∧ TmW s ∧ ∃ w, x8[don.length]? = some w ∧ TmP s w ∧ Pf C1 44 [w, .sl cb cz cxs] (putV (InstF s (don.map fun x => cn x.1))) := fun hj => by
      obtain ⟨s, hs1⟩ : ∃ s, ss[don.length]? = some s := ⟨_, List.getElem?_eq_getElem hj⟩
      obtain ⟨n, hn1⟩ : ∃ n, ns[don.length]? = some n := ⟨_, List.getElem?_eq_getElem (by omega)⟩
      obtain ⟨w, hw, hl⟩ := hx8.at hs1
      exact ⟨s, n, hs1, hn1, hns _ (List.mem_of_getElem? hn1), hl.w, w, hw, hl, Inst_can s w hl _ cb cz cxs hcz hcx (by simp; omega)⟩
    have hend : ¬ don.length < ss.length → OpenF (.mk k0 nn0 s0 ls0 ts0) kind ns = match InstF body (don.map fun x => cn x.1) with
        | none => none
        | some b => some (don, b) := fun hj => by
      rw [hof, ← hop, List.drop_of_length_le (by omega), opT]
    have hlast := Inst_can body (encT body) hbw (don.map fun x => cn x.1) cb cz cxs hcz hcx (by simp; omega)
    rw [he9] at hlast
    cases don with
    | nil =>
      have hcons := teleConsts_can [] true 0 [] (.inr rfl) (by simp only [LosP]) (by simp)
      rw [show ([] : List (List UInt8 × Tm)).map (fun x => cn x.1) = [] from rfl] at hcons hce hround hlast hend
      simp only [encTv] at hcons
      cases hce
      repeat' ((conv => whnf) ; first | refine VIf.tt rfl ?_ | refine VIf.ff rfl ?_ | refine VIf.not ?_ | refine VIf.dtt (by assumption) ?_ | refine VIf.dff (by assumption) ?_ | refine VIf.dec (fun h => ?_) (fun h => ?_) | refine VIf.tt (by assumption) ?_ | refine VIf.ff (by assumption) ?_ | refine VIf.mk (fun h => ?_) (fun h => ?_) | refine VOk.mk rfl ?_ | refine VPur.mk rfl ?_ | refine VNat.mk _ rfl ?_ | refine VArith.fits (by unfold i64; omega) ?_ | refine vret_pf rfl ?_ | refine vret_take rfl rfl ?_ | refine VTch.mk _ rfl ?_)
      all_goals (try (conv => whnf))
      · obtain ⟨s, n, hs1, hn1, hnl1, hsw, w, hw, hl, hinst⟩ := hround (by simp only [List.length_nil] at *; omega)
        have hopj := hop
        rw [drop_at hs1, drop_at hn1, opT] at hopj
        obtain ⟨k1, n1, s1, l1, t1, b1, z1, x1, c1, y1, ys1, rfl, rfl, -⟩ := hl.open
        cases hI : InstF (.mk k1 n1 s1 l1 t1) [] with
        | none =>
          rw [hI] at hinst
          rw [show ([] : List (List UInt8 × Tm)).map (fun x => cn x.1) = [] from rfl, hI] at hopj
          simp only at hopj
          repeat' ((conv => whnf) ; first | refine VIf.tt rfl ?_ | refine VIf.ff rfl ?_ | refine VIf.not ?_ | refine VIf.dtt (by assumption) ?_ | refine VIf.dff (by assumption) ?_ | refine VIf.dec (fun h => ?_) (fun h => ?_) | refine VIf.tt (by assumption) ?_ | refine VIf.ff (by assumption) ?_ | refine VIf.mk (fun h => ?_) (fun h => ?_) | refine VOk.mk rfl ?_ | refine VPur.mk rfl ?_ | refine VNat.mk _ rfl ?_ | refine VArith.fits (by unfold i64; omega) ?_ | refine vret_pf rfl ?_ | refine vret_take rfl rfl ?_ | refine VIdx.mk _ hw ?_ | refine VOk.mk (szOk_of rfl hz8) ?_ | refine finds_pf hcons (fun _ => ?_) | refine finds_pf hinst (fun _ => ?_) | refine VTch.mk _ rfl ?_)
          all_goals (try (conv => whnf))
          rw [hof, ← hopj]
          rfl
        | some x =>
          rw [hI] at hinst
          rw [show ([] : List (List UInt8 × Tm)).map (fun x => cn x.1) = [] from rfl, hI] at hopj
          simp only [List.nil_append] at hopj
          have hxw := InstF_w hsw (by simp) hI
          obtain ⟨k2, n2, s2, b2, z2, x2, c2, y2, ys2, he2⟩ := encT_open x
          have e : [(n, x)].map encLo = [.ag [sv n, iv k2, iv n2, sv s2, .sl b2 z2 x2, .sl c2 y2 ys2]] := by simp [encLo, he2, PV.cells]
          simp only [putV] at hinst
          rw [he2] at hinst
          repeat' ((conv => whnf) ; first | refine VIf.tt rfl ?_ | refine VIf.ff rfl ?_ | refine VIf.not ?_ | refine VIf.dtt (by assumption) ?_ | refine VIf.dff (by assumption) ?_ | refine VIf.dec (fun h => ?_) (fun h => ?_) | refine VIf.tt (by assumption) ?_ | refine VIf.ff (by assumption) ?_ | refine VIf.mk (fun h => ?_) (fun h => ?_) | refine VOk.mk rfl ?_ | refine VPur.mk rfl ?_ | refine VNat.mk _ rfl ?_ | refine VArith.fits (by unfold i64; omega) ?_ | refine vret_pf rfl ?_ | refine vret_take rfl rfl ?_ | refine VIdx.mk _ hw ?_ | refine VOk.mk (szOk_of rfl hz8) ?_ | refine finds_pf hcons (fun _ => ?_) | refine finds_pf hinst (fun _ => ?_) | refine VIdx.mk _ (svs_at hn1) ?_ | refine VOk.mk (szOk_of rfl (svs_nil hnz)) ?_ | refine VTch.mk _ rfl ?_)
          all_goals (try (conv => whnf))
          exact VAgain.mk _ rfl _ (gc_sh (.cons (sh_box rfl rfl) (.cons (sh_box rfl rfl) (.cons (sh_box rfl rfl) (.cons (sh_box rfl rfl) (.cons (sh_box rfl rfl) (.cons (sh_row rfl) .nil)))))) (.cons (sh_box rfl rfl) (.cons (sh_box rfl rfl) (.cons (sh_box rfl rfl) (.cons sh_dead (.cons sh_dead (.cons (sh_row rfl) .nil)))))) rfl rfl rfl rfl rfl) ⟨([(n, x)], false), ⟨by simp only [List.length_cons, List.length_nil] at *; omega, fun y hy => by simp at hy; subst hy; exact ⟨hxw, hnl1⟩, hopj⟩, by simp only [List.length_cons, List.length_nil] at *; omega, congrArg (fun t => (⟨_, [.box 25 [iv k0, iv nn0, sv s0, .sl b0 z0 xs0, .sl c0 y0 ys0], .box 25 zTm, .box 25 [iv k9, iv n9, sv s9, .sl b9 z9 x9, .sl c9 y9 ys9], .dead, .dead, .row false _ 6 t]⟩ : AS)) e.symm⟩
      · have hnn := hend (by simp only [List.length_nil] at *; omega)
        cases hI : InstF body [] with
        | none =>
          rw [hI] at hlast hnn
          simp only [putV] at hlast
          repeat' ((conv => whnf) ; first | refine VIf.tt rfl ?_ | refine VIf.ff rfl ?_ | refine VIf.not ?_ | refine VIf.dtt (by assumption) ?_ | refine VIf.dff (by assumption) ?_ | refine VIf.dec (fun h => ?_) (fun h => ?_) | refine VIf.tt (by assumption) ?_ | refine VIf.ff (by assumption) ?_ | refine VIf.mk (fun h => ?_) (fun h => ?_) | refine VOk.mk rfl ?_ | refine VPur.mk rfl ?_ | refine VNat.mk _ rfl ?_ | refine VArith.fits (by unfold i64; omega) ?_ | refine vret_pf rfl ?_ | refine vret_take rfl rfl ?_ | refine finds_pf hcons (fun _ => ?_) | refine finds_pf hlast (fun _ => ?_) | refine VTch.mk _ rfl ?_)
          all_goals (try (conv => whnf))
          rw [hnn]
          rfl
        | some x =>
          rw [hI] at hlast hnn
          obtain ⟨k2, n2, s2, b2, z2, x2, c2, y2, ys2, he2⟩ := encT_open x
          simp only [putV] at hlast
          rw [he2] at hlast
          repeat' ((conv => whnf) ; first | refine VIf.tt rfl ?_ | refine VIf.ff rfl ?_ | refine VIf.not ?_ | refine VIf.dtt (by assumption) ?_ | refine VIf.dff (by assumption) ?_ | refine VIf.dec (fun h => ?_) (fun h => ?_) | refine VIf.tt (by assumption) ?_ | refine VIf.ff (by assumption) ?_ | refine VIf.mk (fun h => ?_) (fun h => ?_) | refine VOk.mk rfl ?_ | refine VPur.mk rfl ?_ | refine VNat.mk _ rfl ?_ | refine VArith.fits (by unfold i64; omega) ?_ | refine vret_pf rfl ?_ | refine vret_take rfl rfl ?_ | refine finds_pf hcons (fun _ => ?_) | refine finds_pf hlast (fun _ => ?_) | refine VTch.mk _ rfl ?_)
          all_goals (try (conv => whnf))
          rw [hnn]
          simp only [openV]
          rw [he2]
          rfl
    | cons a r =>
      have hp8 := encLos_pure (a :: r) 6
      have hcons := teleConsts_can (a :: r) false 6 ((a :: r).map encLo) (.inl rfl) (los_enc hdw) (by omega)
      rw [hce] at hcons
      repeat' ((conv => whnf) ; first | refine VIf.tt rfl ?_ | refine VIf.ff rfl ?_ | refine VIf.not ?_ | refine VIf.dtt (by assumption) ?_ | refine VIf.dff (by assumption) ?_ | refine VIf.dec (fun h => ?_) (fun h => ?_) | refine VIf.tt (by assumption) ?_ | refine VIf.ff (by assumption) ?_ | refine VIf.mk (fun h => ?_) (fun h => ?_) | refine VOk.mk rfl ?_ | refine VPur.mk rfl ?_ | refine VNat.mk _ rfl ?_ | refine VArith.fits (by unfold i64; omega) ?_ | refine vret_pf rfl ?_ | refine vret_take rfl rfl ?_)
      all_goals (try (conv => whnf))
      · obtain ⟨s, n, hs1, hn1, hnl1, hsw, w, hw, hl, hinst⟩ := hround (by omega)
        have hopj := hop
        rw [drop_at hs1, drop_at hn1, opT] at hopj
        obtain ⟨k1, n1, s1, l1, t1, b1, z1, x1, c1, y1, ys1, rfl, rfl, -⟩ := hl.open
        cases hI : InstF (.mk k1 n1 s1 l1 t1) ((a :: r).map fun x => cn x.1) with
        | none =>
          rw [hI] at hinst hopj
          simp only at hopj
          repeat' ((conv => whnf) ; first | refine VIf.tt rfl ?_ | refine VIf.ff rfl ?_ | refine VIf.not ?_ | refine VIf.dtt (by assumption) ?_ | refine VIf.dff (by assumption) ?_ | refine VIf.dec (fun h => ?_) (fun h => ?_) | refine VIf.tt (by assumption) ?_ | refine VIf.ff (by assumption) ?_ | refine VIf.mk (fun h => ?_) (fun h => ?_) | refine VOk.mk rfl ?_ | refine VPur.mk rfl ?_ | refine VNat.mk _ rfl ?_ | refine VArith.fits (by unfold i64; omega) ?_ | refine vret_pf rfl ?_ | refine vret_take rfl rfl ?_ | refine VIdx.mk _ hw ?_ | refine VOk.mk (szOk_of rfl hz8) ?_ | refine VTch.mk [5] (touchC_sh (.cons (sh_box rfl rfl) (.cons (sh_box rfl rfl) (.cons (sh_box rfl rfl) (.cons sh_dead (.cons sh_dead (.cons (sh_row hp8) (.cons (sh_box rfl rfl) .nil))))))) rfl rfl rfl) ?_ | refine VTch.mk _ rfl ?_)
          all_goals (try (conv => whnf))
          refine vcall_row rfl rfl (by simp) (encLos_pure _ 4) hcons rfl ?_
          repeat' ((conv => whnf) ; first | refine VIf.tt rfl ?_ | refine VIf.ff rfl ?_ | refine VIf.not ?_ | refine VIf.dtt (by assumption) ?_ | refine VIf.dff (by assumption) ?_ | refine VIf.dec (fun h => ?_) (fun h => ?_) | refine VIf.tt (by assumption) ?_ | refine VIf.ff (by assumption) ?_ | refine VIf.mk (fun h => ?_) (fun h => ?_) | refine VOk.mk rfl ?_ | refine VPur.mk rfl ?_ | refine VNat.mk _ rfl ?_ | refine VArith.fits (by unfold i64; omega) ?_ | refine vret_pf rfl ?_ | refine vret_take rfl rfl ?_ | refine finds_pf hinst (fun _ => ?_) | refine VTch.mk _ rfl ?_)
          all_goals (try (conv => whnf))
          rw [hof, ← hopj]
          rfl
        | some x =>
          rw [hI] at hinst hopj
          simp only at hopj
          have hxw := InstF_w hsw husw hI
          obtain ⟨k2, n2, s2, b2, z2, x2, c2, y2, ys2, he2⟩ := encT_open x
          have e : (a :: (r ++ [(n, x)])).map encLo = (a :: r).map encLo ++ [.ag [sv n, iv k2, iv n2, sv s2, .sl b2 z2 x2, .sl c2 y2 ys2]] := by simp [encLo, he2, PV.cells]
          have el2 : ((a :: (r ++ [(n, x)])).length : Int) = (a :: r).length + 1 := by simp
          have el : (r ++ [(n, x)]).length + 1 = r.length + 1 + 1 := by simp
          simp only [putV] at hinst
          rw [he2] at hinst
          repeat' ((conv => whnf) ; first | refine VIf.tt rfl ?_ | refine VIf.ff rfl ?_ | refine VIf.not ?_ | refine VIf.dtt (by assumption) ?_ | refine VIf.dff (by assumption) ?_ | refine VIf.dec (fun h => ?_) (fun h => ?_) | refine VIf.tt (by assumption) ?_ | refine VIf.ff (by assumption) ?_ | refine VIf.mk (fun h => ?_) (fun h => ?_) | refine VOk.mk rfl ?_ | refine VPur.mk rfl ?_ | refine VNat.mk _ rfl ?_ | refine VArith.fits (by unfold i64; omega) ?_ | refine vret_pf rfl ?_ | refine vret_take rfl rfl ?_ | refine VIdx.mk _ hw ?_ | refine VOk.mk (szOk_of rfl hz8) ?_ | refine VTch.mk [5] (touchC_sh (.cons (sh_box rfl rfl) (.cons (sh_box rfl rfl) (.cons (sh_box rfl rfl) (.cons sh_dead (.cons sh_dead (.cons (sh_row hp8) (.cons (sh_box rfl rfl) .nil))))))) rfl rfl rfl) ?_ | refine VTch.mk _ rfl ?_)
          all_goals (try (conv => whnf))
          refine vcall_row rfl rfl (by simp) (encLos_pure _ 4) hcons rfl ?_
          have hln : ((a :: r).map encLo).length = r.length + 1 := by simp
          repeat' ((conv => whnf) ; first | refine VIf.tt rfl ?_ | refine VIf.ff rfl ?_ | refine VIf.not ?_ | refine VIf.dtt (by assumption) ?_ | refine VIf.dff (by assumption) ?_ | refine VIf.dec (fun h => ?_) (fun h => ?_) | refine VIf.tt (by assumption) ?_ | refine VIf.ff (by assumption) ?_ | refine VIf.mk (fun h => ?_) (fun h => ?_) | refine VOk.mk rfl ?_ | refine VPur.mk rfl ?_ | refine VNat.mk _ rfl ?_ | refine VArith.fits (by unfold i64; omega) ?_ | refine vret_pf rfl ?_ | refine vret_take rfl rfl ?_ | refine finds_pf hinst (fun _ => ?_) | refine VIdx.mk _ (svs_at hn1) ?_ | refine VOk.mk (szOk_of rfl (svs_nil hnz)) ?_ | refine VOk.mk (grow_ok (w := 96) (r := 140737488355328) hln rfl rfl rfl rfl (by simp only [List.length_cons, List.length_nil] at *; omega) (by simp only [List.length_cons, List.length_nil] at *; omega)) ?_ | refine VTch.mk _ rfl ?_)
          all_goals (try (conv => whnf))
          have hp8 : ((a :: r).map encLo ++ [PV.ag [sv n, iv k2, iv n2, sv s2, .sl b2 z2 x2, .sl c2 y2 ys2]]).all (pur 8) = true := e ▸ encLos_pure _ 6
          refine VAgain.mk _ rfl _ (gc_sh (.cons (sh_box rfl rfl) (.cons (sh_box rfl rfl) (.cons (sh_box rfl rfl) (.cons sh_dead (.cons sh_dead (.cons (sh_row hp8) (.cons (sh_box rfl rfl) (.cons (sh_box rfl rfl) .nil)))))))) (.cons (sh_box rfl rfl) (.cons (sh_box rfl rfl) (.cons (sh_box rfl rfl) (.cons sh_dead (.cons sh_dead (.cons (sh_row hp8) .nil)))))) rfl rfl rfl rfl rfl) ⟨(a :: (r ++ [(n, x)]), true), ⟨by simp only [List.length_cons, List.length_append, List.length_nil] at *; omega, fun y hy => ?_, ?_⟩, by simp only [List.length_cons, List.length_append, List.length_nil] at *; omega, ?_⟩
          · rcases List.mem_append.1 (show y ∈ (a :: r) ++ [(n, x)] from hy) with hy | hy
            · exact hdw y hy
            · simp at hy
              subst hy
              exact ⟨hxw, hnl1⟩
          · dsimp only
            simp only [List.length_cons, List.length_append, List.length_nil, List.cons_append] at hopj ⊢
            exact hopj
          · dsimp only
            rw [e, el, el2]
            rfl
      · have hnn := hend (by omega)
        cases hI : InstF body ((a :: r).map fun x => cn x.1) with
        | none =>
          rw [hI] at hlast hnn
          simp only [putV] at hlast
          repeat' ((conv => whnf) ; first | refine VIf.tt rfl ?_ | refine VIf.ff rfl ?_ | refine VIf.not ?_ | refine VIf.dtt (by assumption) ?_ | refine VIf.dff (by assumption) ?_ | refine VIf.dec (fun h => ?_) (fun h => ?_) | refine VIf.tt (by assumption) ?_ | refine VIf.ff (by assumption) ?_ | refine VIf.mk (fun h => ?_) (fun h => ?_) | refine VOk.mk rfl ?_ | refine VPur.mk rfl ?_ | refine VNat.mk _ rfl ?_ | refine VArith.fits (by unfold i64; omega) ?_ | refine vret_pf rfl ?_ | refine vret_take rfl rfl ?_ | refine VTch.mk [5] (touchC_sh (.cons (sh_box rfl rfl) (.cons (sh_box rfl rfl) (.cons (sh_box rfl rfl) (.cons sh_dead (.cons sh_dead (.cons (sh_row hp8) .nil)))))) rfl rfl rfl) ?_ | refine VTch.mk _ rfl ?_)
          all_goals (try (conv => whnf))
          refine vcall_row rfl rfl (by simp) (encLos_pure _ 4) hcons rfl ?_
          repeat' ((conv => whnf) ; first | refine VIf.tt rfl ?_ | refine VIf.ff rfl ?_ | refine VIf.not ?_ | refine VIf.dtt (by assumption) ?_ | refine VIf.dff (by assumption) ?_ | refine VIf.dec (fun h => ?_) (fun h => ?_) | refine VIf.tt (by assumption) ?_ | refine VIf.ff (by assumption) ?_ | refine VIf.mk (fun h => ?_) (fun h => ?_) | refine VOk.mk rfl ?_ | refine VPur.mk rfl ?_ | refine VNat.mk _ rfl ?_ | refine VArith.fits (by unfold i64; omega) ?_ | refine vret_pf rfl ?_ | refine vret_take rfl rfl ?_ | refine finds_pf hlast (fun _ => ?_) | refine VTch.mk _ rfl ?_)
          all_goals (try (conv => whnf))
          rw [hnn]
          rfl
        | some x =>
          rw [hI] at hlast hnn
          obtain ⟨k2, n2, s2, b2, z2, x2, c2, y2, ys2, he2⟩ := encT_open x
          simp only [putV] at hlast
          rw [he2] at hlast
          repeat' ((conv => whnf) ; first | refine VIf.tt rfl ?_ | refine VIf.ff rfl ?_ | refine VIf.not ?_ | refine VIf.dtt (by assumption) ?_ | refine VIf.dff (by assumption) ?_ | refine VIf.dec (fun h => ?_) (fun h => ?_) | refine VIf.tt (by assumption) ?_ | refine VIf.ff (by assumption) ?_ | refine VIf.mk (fun h => ?_) (fun h => ?_) | refine VOk.mk rfl ?_ | refine VPur.mk rfl ?_ | refine VNat.mk _ rfl ?_ | refine VArith.fits (by unfold i64; omega) ?_ | refine vret_pf rfl ?_ | refine vret_take rfl rfl ?_ | refine VTch.mk [5] (touchC_sh (.cons (sh_box rfl rfl) (.cons (sh_box rfl rfl) (.cons (sh_box rfl rfl) (.cons sh_dead (.cons sh_dead (.cons (sh_row hp8) .nil)))))) rfl rfl rfl) ?_ | refine VTch.mk _ rfl ?_)
          all_goals (try (conv => whnf))
          refine vcall_row rfl rfl (by simp) (encLos_pure _ 4) hcons rfl ?_
          repeat' ((conv => whnf) ; first | refine VIf.tt rfl ?_ | refine VIf.ff rfl ?_ | refine VIf.not ?_ | refine VIf.dtt (by assumption) ?_ | refine VIf.dff (by assumption) ?_ | refine VIf.dec (fun h => ?_) (fun h => ?_) | refine VIf.tt (by assumption) ?_ | refine VIf.ff (by assumption) ?_ | refine VIf.mk (fun h => ?_) (fun h => ?_) | refine VOk.mk rfl ?_ | refine VPur.mk rfl ?_ | refine VNat.mk _ rfl ?_ | refine VArith.fits (by unfold i64; omega) ?_ | refine vret_pf rfl ?_ | refine vret_take rfl rfl ?_ | refine finds_pf hlast (fun _ => ?_) | refine VTch.mk _ rfl ?_)
          all_goals (try (conv => whnf))
          rw [hnn]
          refine vret_pub rfl (mapS_cons (pubV_row rfl (by simp) (encLos_pure _ 4)) (mapS_cons rfl (mapS_cons rfl mapS_nil))) rfl ?_
          simp only [openV]
          rw [he2]
          rfl
end Go.Proofs.YtehhihdahalfeaaGreatDoor
namespace Go.Proofs.YtehhihdahalfeaaGreatDoor
open Go Go.Am Go.Gw
def backP (b : Bool) (z : Nat) (xs : List PV) : PV := .fn 91 [] [.cp [.sl b z xs]]
set_option maxRecDepth 100000 in
theorem Backward_can (b : Bool) (z : Nat) (xs : List PV) : Pf C1 50 [.sl b z xs] [backP b z xs] := by
  refine run_intro Tryz.func50 rfl rfl rfl ?_
  repeat' ((conv => whnf) ; first | refine VIf.tt rfl ?_ | refine VIf.ff rfl ?_ | refine VIf.not ?_ | refine VIf.dtt (by assumption) ?_ | refine VIf.dff (by assumption) ?_ | refine VIf.dec (fun h => ?_) (fun h => ?_) | refine VIf.tt (by assumption) ?_ | refine VIf.ff (by assumption) ?_ | refine VIf.mk (fun h => ?_) (fun h => ?_) | refine VOk.mk rfl ?_ | refine VPur.mk rfl ?_ | refine VNat.mk _ rfl ?_ | refine VArith.fits (by unfold i64; omega) ?_ | refine vret_pf rfl ?_ | refine vret_take rfl rfl ?_ | refine VTch.mk _ rfl ?_)
  all_goals (try (conv => whnf))
  refine vret_pub rfl rfl rfl ?_
  rfl
def closeV (o : Option Tm) : List PV := match o with
  | some x => [encT x, bv true]
  | none => [encT tz, bv false]
def stepC (kind : Int) (x : List UInt8 × Tm) (o : Tm) : Option Tm := match AbsF o [x.1] with
  | none => none
  | some b => if anyT x.2 = true then some (.mk kind 0 [] [] [x.2, b]) else none
theorem closeR_step (kind : Int) (x : List UInt8 × Tm) (r : List (List UInt8 × Tm)) (o : Tm) : closeR kind (x :: r) o = match stepC kind x o with
  | none => none
  | some o' => closeR kind r o' := by
  unfold stepC
  rw [closeR]
  cases AbsF o [x.1] with
  | none => rfl
  | some b =>
    dsimp only
    by_cases h : anyT x.2 = true
    · rw [if_pos h, if_pos h]
    · rw [if_neg h, if_neg h]
theorem AbsF_w {t x : Tm} {ns : List (List UInt8)} (hw : TmW t) (h : AbsF t ns = some x) : TmW x := by
  unfold AbsF at h
  split at h
  · rename_i hc
    have := any_dep hc.1
    exact madeF_ok (absF_put hc.2) hw (any_parts hc.1).2 (by omega) (by omega) this h
  · cases h
def clLP (q : TV) (b : Bool) (z : Nat) (xs : List PV) (kind : Int) (x1 x2 : Bool) (a c : Code) (s : LpS) : SO := .lp [(24, backP b z xs), (23, .sl b z xs), (8, .bp 1 0), (22, .ag q.cs), (20, bv (!x1)), (19, bv (!x1)), (18, bv x1), (17, .ag q.cs), (16, bv (!x2)), (15, bv (!x2)), (14, bv x2), (13, iv kind), (7, .bp 2 0), (6, .bp 3 0), (4, .bp 4 0), (3, .bp 5 0), (0, iv kind), (1, .ag q.cs), (2, .sl b z xs)] [25, 26] a c s
def clS (lp : SO) (q : TV) (kind : Int) (w : TV) : Sto := [lp, .box 25 w.cs, .box 4 [bv false], .box 25 zTm, .box 25 q.cs, .box 3 [iv kind]]
/-- what the body does -/
def ClOk (lp : LpS → SO) (q : TV) (kind : Int) : Prop := ∀ (i : Int) (x : List UInt8 × Tm) (v : PV), LoP x v → ∀ (o : Tm) (w : TV), TmP o (.ag w.cs) → FindsY C1 [.yl 0, iv i, v] (clS (lp .ready) q kind w) fun r st => match stepC kind x o with
  | some o' => r = .ret [bv true] ∧ ∃ w', TmP o' (.ag (TV.cs w')) ∧ st = clS (lp .ready) q kind w'
  | none => r = .ret [bv false] ∧ st = clS (lp (.done none)) q kind w
set_option maxHeartbeats 1000000 in
set_option maxRecDepth 100000 in
theorem back1_can (q : TV) (kind : Int) (b : Bool) (z : Nat) (xs : List PV) (l : List (List UInt8 × Tm)) (hz : z = 6 ∨ xs = []) (hxs : LosP l xs) (hl : l.length ≤ 1000000) (x1 x2 : Bool) (a c : Code) (hY : ClOk (clLP q b z xs kind x1 x2 a c) q kind) (o0 : Tm) (w0 : TV) (hw0 : TmP o0 (.ag w0.cs)) :
    Finds C1 91 [.yl 0, .cp [.sl b z xs]] (clS (clLP q b z xs kind x1 x2 a c .ready) q kind w0) fun r st => r = .ret [] ∧ match closeR kind l.reverse o0 with
      | some o' => ∃ w', TmP o' (.ag (TV.cs w')) ∧ st = clS (clLP q b z xs kind x1 x2 a c .ready) q kind w'
      | none => ∃ w', st = clS (clLP q b z xs kind x1 x2 a c (.done none)) q kind w' := by
  have hlen := hxs.len
  refine run_intro Tryz.func91 rfl rfl rfl ?_
  repeat' ((conv => whnf) ; first | refine VIf.tt rfl ?_ | refine VIf.ff rfl ?_ | refine VIf.not ?_ | refine VIf.dtt (by assumption) ?_ | refine VIf.dff (by assumption) ?_ | refine VIf.dec (fun h => ?_) (fun h => ?_) | refine VIf.tt (by assumption) ?_ | refine VIf.ff (by assumption) ?_ | refine VIf.mk (fun h => ?_) (fun h => ?_) | refine VOk.mk rfl ?_ | refine VPur.mk rfl ?_ | refine VNat.mk _ rfl ?_ | refine VArith.fits (by unfold i64; omega) ?_ | refine vret_pf rfl ?_ | refine vret_take rfl rfl ?_ | refine VTch.mk _ rfl ?_)
  all_goals (try (conv => whnf))
  refine loop_over (G := Nat × Tm × TV) (fun g => [(3, iv ((g.1 : Int) - 1))]) (fun g => clS (clLP q b z xs kind x1 x2 a c .ready) q kind g.2.2) (fun g => g.1 ≤ l.length ∧ TmP g.2.1 (.ag g.2.2.cs) ∧ closeR kind (l.take g.1).reverse g.2.1 = closeR kind l.reverse o0) (fun g => g.1) (xs.length, o0, w0) ⟨by dsimp only; omega, hw0, by dsimp only; rw [List.take_of_length_le (by omega)]⟩ rfl rfl ?_
  rintro ⟨k, o, w⟩ ⟨hk, hw, hcl⟩
  dsimp only at hk hw hcl ⊢
  repeat' ((conv => whnf) ; first | refine VIf.tt rfl ?_ | refine VIf.ff rfl ?_ | refine VIf.not ?_ | refine VIf.dtt (by assumption) ?_ | refine VIf.dff (by assumption) ?_ | refine VIf.dec (fun h => ?_) (fun h => ?_) | refine VIf.tt (by assumption) ?_ | refine VIf.ff (by assumption) ?_ | refine VIf.mk (fun h => ?_) (fun h => ?_) | refine VOk.mk rfl ?_ | refine VPur.mk rfl ?_ | refine VNat.mk _ rfl ?_ | refine VArith.fits (by unfold i64; omega) ?_ | refine vret_pf rfl ?_ | refine vret_take rfl rfl ?_ | refine VTch.mk _ rfl ?_)
  all_goals (try (conv => whnf))
  · obtain ⟨j, rfl⟩ : ∃ j, k = j + 1 := ⟨k - 1, by omega⟩
    obtain ⟨x, hx⟩ : ∃ x, l[j]? = some x := ⟨_, List.getElem?_eq_getElem (by omega)⟩
    obtain ⟨v, hv, hlo⟩ := hxs.at hx
    have hy := hY ((((j + 1 : Nat) : Int)) - 1) x v hlo o w hw
    have hti : (((j + 1 : Nat) : Int) - 1).toNat = j := by omega
    have hcl2 : closeR kind l.reverse o0 = match stepC kind x o with
        | none => none
        | some o' => closeR kind (l.take j).reverse o' := by
      rw [← hcl, take_snoc' hx, List.reverse_append]
      exact closeR_step kind x _ o
    obtain ⟨s, k1, n1, s1, b1, z1, x1', c1, y1, ys1, t1, rfl, rfl, ht1, hsl⟩ := hlo.open
    refine VNat.nonneg (by omega) ?_
    rw [hti]
    repeat' ((conv => whnf) ; first | refine VIf.tt rfl ?_ | refine VIf.ff rfl ?_ | refine VIf.not ?_ | refine VIf.dtt (by assumption) ?_ | refine VIf.dff (by assumption) ?_ | refine VIf.dec (fun h => ?_) (fun h => ?_) | refine VIf.tt (by assumption) ?_ | refine VIf.ff (by assumption) ?_ | refine VIf.mk (fun h => ?_) (fun h => ?_) | refine VOk.mk rfl ?_ | refine VPur.mk rfl ?_ | refine VNat.mk _ rfl ?_ | refine VArith.fits (by unfold i64; omega) ?_ | refine vret_pf rfl ?_ | refine vret_take rfl rfl ?_ | refine VIdx.mk _ hv ?_ | refine VOk.mk (szOk_of rfl hz) ?_ | refine VTch.mk _ rfl ?_)
    all_goals (try (conv => whnf))
    refine vyield_shr rfl (.cons (shr_lp rfl rfl) (.cons (shr_box rfl rfl) (.cons (shr_box rfl rfl) (.cons (shr_box rfl rfl) (.cons (shr_box rfl rfl) (.cons (shr_box rfl rfl) .nil)))))) rfl rfl rfl rfl (findsY_mono hy ?_)
    intro r st hq
    cases hst : stepC kind (s, t1) o with
    | none =>
      rw [hst] at hq hcl2
      obtain ⟨rfl, rfl⟩ := hq
      refine vback_to (st' := clS (clLP q b z xs kind x1 x2 a c (.done none)) q kind w) (.cons (shr_lp rfl rfl) (.cons (shr_box rfl rfl) (.cons (shr_box rfl rfl) (.cons (shr_box rfl rfl) (.cons (shr_box rfl rfl) (.cons (shr_box rfl rfl) .nil)))))) rfl rfl (by kernel_rfl) ?_
      repeat' ((conv => whnf) ; first | refine VIf.tt rfl ?_ | refine VIf.ff rfl ?_ | refine VIf.not ?_ | refine VIf.dtt (by assumption) ?_ | refine VIf.dff (by assumption) ?_ | refine VIf.dec (fun h => ?_) (fun h => ?_) | refine VIf.tt (by assumption) ?_ | refine VIf.ff (by assumption) ?_ | refine VIf.mk (fun h => ?_) (fun h => ?_) | refine VOk.mk rfl ?_ | refine VPur.mk rfl ?_ | refine VNat.mk _ rfl ?_ | refine VArith.fits (by unfold i64; omega) ?_ | refine vret_pf rfl ?_ | refine vret_take rfl rfl ?_ | refine VTch.mk _ rfl ?_)
      all_goals (try (conv => whnf))
      refine ⟨rfl, ?_⟩
      rw [hcl2]
      exact ⟨w, rfl⟩
    | some o' =>
      rw [hst] at hq hcl2
      obtain ⟨rfl, w', hw', rfl⟩ := hq
      refine vback_to (st' := clS (clLP q b z xs kind x1 x2 a c .ready) q kind w') (.cons (shr_lp rfl rfl) (.cons (shr_box rfl rfl) (.cons (shr_box rfl rfl) (.cons (shr_box rfl rfl) (.cons (shr_box rfl rfl) (.cons (shr_box rfl rfl) .nil)))))) rfl rfl (by kernel_rfl) ?_
      repeat' ((conv => whnf) ; first | refine VIf.tt rfl ?_ | refine VIf.ff rfl ?_ | refine VIf.not ?_ | refine VIf.dtt (by assumption) ?_ | refine VIf.dff (by assumption) ?_ | refine VIf.dec (fun h => ?_) (fun h => ?_) | refine VIf.tt (by assumption) ?_ | refine VIf.ff (by assumption) ?_ | refine VIf.mk (fun h => ?_) (fun h => ?_) | refine VOk.mk rfl ?_ | refine VPur.mk rfl ?_ | refine VNat.mk _ rfl ?_ | refine VArith.fits (by unfold i64; omega) ?_ | refine vret_pf rfl ?_ | refine vret_take rfl rfl ?_ | refine VTch.mk _ rfl ?_)
      all_goals (try (conv => whnf))
      have ei : ((j + 1 : Nat) : Int) - 1 - 1 = (j : Int) - 1 := by omega
      rw [ei]
      exact VAgain.mk _ rfl _ (gc_same rfl) ⟨(j, o', w'), ⟨by omega, hw', hcl2.symm⟩, by omega, rfl⟩
  · obtain rfl : k = 0 := by omega
    rw [List.take_zero, List.reverse_nil, closeR] at hcl
    rw [← hcl]
    exact ⟨rfl, w, hw, rfl⟩
set_option maxHeartbeats 2000000 in
set_option maxRecDepth 100000 in
theorem Close_can (kind : Int) (t : Tm) (v : PV) (hT : TmP t v) (l : List (List UInt8 × Tm)) (b : Bool) (z : Nat) (xs : List PV) (hz : z = 6 ∨ xs = []) (hxs : LosP l xs) (hl : l.length ≤ 1000000) : Pf C1 18 [iv kind, v, .sl b z xs] (closeV (CloseF kind t l)) := by
  have hbd := teleBinder_can kind
  have hr := teleRight_can t v hT
  have hbk := Backward_can b z xs
  obtain ⟨k0, nn0, s0, ls0, ts0, b0, z0, xs0, c0, y0, ys0, rfl, rfl, -⟩ := hT.open
  refine run_intro Tryz.func18 rfl rfl rfl ?_
  repeat' ((conv => whnf) ; first | refine VIf.tt rfl ?_ | refine VIf.ff rfl ?_ | refine VIf.not ?_ | refine VIf.dtt (by assumption) ?_ | refine VIf.dff (by assumption) ?_ | refine VIf.dec (fun h => ?_) (fun h => ?_) | refine VIf.tt (by assumption) ?_ | refine VIf.ff (by assumption) ?_ | refine VIf.mk (fun h => ?_) (fun h => ?_) | refine VOk.mk rfl ?_ | refine VPur.mk rfl ?_ | refine VNat.mk _ rfl ?_ | refine VArith.fits (by unfold i64; omega) ?_ | refine vret_pf rfl ?_ | refine vret_take rfl rfl ?_ | refine vcall_pf hbd rfl rfl ?_ | refine vcall_pf hr rfl rfl ?_ | refine vcall_pf hbk rfl rfl ?_ | refine VTch.mk _ rfl ?_)
  all_goals (try (conv => whnf))
  · have hany : anyT (.mk k0 nn0 s0 ls0 ts0) = true := by assumption
    have hkd : binderB kind = true := decide_eq_true (by assumption)
    have hcf : CloseF kind (.mk k0 nn0 s0 ls0 ts0) l = match closeR kind l.reverse (.mk k0 nn0 s0 ls0 ts0) with
      | none => none
      | some o => if anyT o = true then some o else none := if_pos ⟨hkd, hany⟩
    refine vcall_shr (st0 := clS (clLP ⟨k0, nn0, s0, b0, z0, xs0, c0, y0, ys0⟩ b z xs kind (anyT (.mk k0 nn0 s0 ls0 ts0)) (binderB kind) _ _ .ready) ⟨k0, nn0, s0, b0, z0, xs0, c0, y0, ys0⟩ kind ⟨k0, nn0, s0, b0, z0, xs0, c0, y0, ys0⟩) (args0 := [.yl 0, .cp [.sl b z xs]]) rfl rfl (.cons (shr_box rfl rfl) (.cons (shr_box rfl rfl) (.cons (shr_box rfl rfl) (.cons (shr_box rfl rfl) (.cons (shr_box rfl rfl) (.cons (shr_lp rfl rfl) .nil)))))) rfl rfl rfl rfl (Finds.mono (back1_can ⟨k0, nn0, s0, b0, z0, xs0, c0, y0, ys0⟩ kind b z xs l hz hxs hl _ _ _ _ ?_ (.mk k0 nn0 s0 ls0 ts0) _ hT) ?_)
    · intro i x v hlo o w hw
      obtain ⟨s, k1, n1, s1, b1, z1, x1, c1, y1, ys1, t1, rfl, rfl, ht1, hsl⟩ := hlo.open
      have hab := Abstract_can o _ hw [s] true 1 (.inl rfl) (by simp)
      have hrt := teleRight_can t1 _ ht1
      have hst : stepC kind (s, t1) o = match AbsF o [s] with
        | none => none
        | some b => if anyT t1 = true then some (.mk kind 0 [] [] [t1, b]) else none := rfl
      cases hA : AbsF o [s] with
      | none =>
        rw [hA] at hab hst
        simp only at hst
        rw [hst]
        simp only [putV] at hab
        refine yield_intro rfl rfl ?_
        repeat' ((conv => whnf) ; first | refine VIf.tt rfl ?_ | refine VIf.ff rfl ?_ | refine VIf.not ?_ | refine VIf.dtt (by assumption) ?_ | refine VIf.dff (by assumption) ?_ | refine VIf.dec (fun h => ?_) (fun h => ?_) | refine VIf.tt (by assumption) ?_ | refine VIf.ff (by assumption) ?_ | refine VIf.mk (fun h => ?_) (fun h => ?_) | refine VOk.mk rfl ?_ | refine VPur.mk rfl ?_ | refine VNat.mk _ rfl ?_ | refine VArith.fits (by unfold i64; omega) ?_ | refine vret_pf rfl ?_ | refine vret_take rfl rfl ?_ | refine vcall_pf hab rfl rfl ?_ | refine vcall_pf hrt rfl rfl ?_ | refine VTch.mk _ rfl ?_)
        all_goals (try (conv => whnf))
        exact ⟨rfl, by kernel_rfl⟩
      | some bt =>
        rw [hA] at hab hst
        simp only at hst
        obtain ⟨k8, n8, s8, b8, z8, x8, c8, y8, ys8, he8⟩ := encT_open bt
        simp only [putV] at hab
        rw [he8] at hab
        have hbw : TmP bt (encT bt) := AbsF_w hw.w hA
        rw [he8] at hbw
        cases hty : anyT t1 with
        | false =>
          rw [hty] at hrt hst
          rw [if_neg (by simp)] at hst
          rw [hst]
          refine yield_intro rfl rfl ?_
          repeat' ((conv => whnf) ; first | refine VIf.tt rfl ?_ | refine VIf.ff rfl ?_ | refine VIf.not ?_ | refine VIf.dtt (by assumption) ?_ | refine VIf.dff (by assumption) ?_ | refine VIf.dec (fun h => ?_) (fun h => ?_) | refine VIf.tt (by assumption) ?_ | refine VIf.ff (by assumption) ?_ | refine VIf.mk (fun h => ?_) (fun h => ?_) | refine VOk.mk rfl ?_ | refine VPur.mk rfl ?_ | refine VNat.mk _ rfl ?_ | refine VArith.fits (by unfold i64; omega) ?_ | refine vret_pf rfl ?_ | refine vret_take rfl rfl ?_ | refine vcall_pf hab rfl rfl ?_ | refine vcall_pf hrt rfl rfl ?_ | refine VTch.mk _ rfl ?_)
          all_goals (try (conv => whnf))
          exact ⟨rfl, by kernel_rfl⟩
        | true =>
          rw [hty] at hrt hst
          rw [if_pos rfl] at hst
          rw [hst]
          refine yield_intro rfl rfl ?_
          repeat' ((conv => whnf) ; first | refine VIf.tt rfl ?_ | refine VIf.ff rfl ?_ | refine VIf.not ?_ | refine VIf.dtt (by assumption) ?_ | refine VIf.dff (by assumption) ?_ | refine VIf.dec (fun h => ?_) (fun h => ?_) | refine VIf.tt (by assumption) ?_ | refine VIf.ff (by assumption) ?_ | refine VIf.mk (fun h => ?_) (fun h => ?_) | refine VOk.mk rfl ?_ | refine VPur.mk rfl ?_ | refine VNat.mk _ rfl ?_ | refine VArith.fits (by unfold i64; omega) ?_ | refine vret_pf rfl ?_ | refine vret_take rfl rfl ?_ | refine vcall_pf hab rfl rfl ?_ | refine vcall_pf hrt rfl rfl ?_ | refine VTch.mk _ rfl ?_)
          all_goals (try (conv => whnf))
          refine ⟨rfl, ⟨kind, 0, [], true, 0, [], true, 5, [.ag [iv k1, iv n1, sv s1, .sl b1 z1 x1, .sl c1 y1 ys1], .ag [iv k8, iv n8, sv s8, .sl b8 z8 x8, .sl c8 y8 ys8]]⟩, ?_, by kernel_rfl⟩
          simp only [TV.cs, TmP, TmsP, LvsP]
          exact ⟨_, _, _, _, _, _, rfl, .inr rfl, rfl, by simp, .inl rfl, ⟨_, _, rfl, ht1, _, _, rfl, hbw, rfl⟩, by simp, by simp, by unfold i64; omega⟩
    · rintro r st ⟨rfl, hq⟩
      cases hcr : closeR kind l.reverse (.mk k0 nn0 s0 ls0 ts0) with
      | none =>
        rw [hcr] at hq hcf
        simp only at hq hcf
        obtain ⟨w', rfl⟩ := hq
        refine vback_f (.cons (shr_lp rfl rfl) (.cons (shr_box rfl rfl) (.cons (shr_box rfl rfl) (.cons (shr_box rfl rfl) (.cons (shr_box rfl rfl) (.cons (shr_box rfl rfl) .nil)))))) rfl ?_
        repeat' ((conv => whnf) ; first | refine VIf.tt rfl ?_ | refine VIf.ff rfl ?_ | refine VIf.not ?_ | refine VIf.dtt (by assumption) ?_ | refine VIf.dff (by assumption) ?_ | refine VIf.dec (fun h => ?_) (fun h => ?_) | refine VIf.tt (by assumption) ?_ | refine VIf.ff (by assumption) ?_ | refine VIf.mk (fun h => ?_) (fun h => ?_) | refine VOk.mk rfl ?_ | refine VPur.mk rfl ?_ | refine VNat.mk _ rfl ?_ | refine VArith.fits (by unfold i64; omega) ?_ | refine vret_pf rfl ?_ | refine vret_take rfl rfl ?_ | refine VTch.mk _ rfl ?_)
        all_goals (try (conv => whnf))
        rw [hcf]
        rfl
      | some o =>
        rw [hcr] at hq hcf
        simp only at hq hcf
        obtain ⟨w', hw', rfl⟩ := hq
        have hr2 := teleRight_can o _ hw'
        have hap := App_can o _ hw' true 0
        obtain ⟨k8, n8, s8, b8, z8, x8, c8, y8, ys8, he8⟩ := encT_open o
        rw [he8] at hap
        refine vback_f (.cons (shr_lp rfl rfl) (.cons (shr_box rfl rfl) (.cons (shr_box rfl rfl) (.cons (shr_box rfl rfl) (.cons (shr_box rfl rfl) (.cons (shr_box rfl rfl) .nil)))))) rfl ?_
        repeat' ((conv => whnf) ; first | refine VIf.tt rfl ?_ | refine VIf.ff rfl ?_ | refine VIf.not ?_ | refine VIf.dtt (by assumption) ?_ | refine VIf.dff (by assumption) ?_ | refine VIf.dec (fun h => ?_) (fun h => ?_) | refine VIf.tt (by assumption) ?_ | refine VIf.ff (by assumption) ?_ | refine VIf.mk (fun h => ?_) (fun h => ?_) | refine VOk.mk rfl ?_ | refine VPur.mk rfl ?_ | refine VNat.mk _ rfl ?_ | refine VArith.fits (by unfold i64; omega) ?_ | refine vret_pf rfl ?_ | refine vret_take rfl rfl ?_ | refine vcall_pf hr2 rfl rfl ?_ | refine vcall_pf hap rfl rfl ?_ | refine VTch.mk _ rfl ?_)
        all_goals (try (conv => whnf))
        · rw [hcf, if_pos (by assumption)]
          simp only [closeV]
          rw [he8]
          rfl
        · rw [hcf, if_neg (fun e => by simp_all)]
          rfl
  · have hcf : CloseF kind (.mk k0 nn0 s0 ls0 ts0) l = none := if_neg (fun e => by simp_all)
    rw [hcf]
    rfl
  · have hcf : CloseF kind (.mk k0 nn0 s0 ls0 ts0) l = none := if_neg (fun e => by simp_all [binderB])
    rw [hcf]
    rfl
end Go.Proofs.YtehhihdahalfeaaGreatDoor

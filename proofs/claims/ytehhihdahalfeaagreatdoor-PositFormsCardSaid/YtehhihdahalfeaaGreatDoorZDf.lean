/-
  A family's form (posit.Shape), for any declaration. No statement of the seat.
-/
import Derived.Test.YtehhihdahalfeaaGreatDoorZDe
set_option linter.unusedVariables false
set_option linter.unusedSimpArgs false
set_option linter.unnecessarySimpa false
namespace Go.Proofs.YtehhihdahalfeaaGreatDoor
open Go Go.Am Go.Gw
def CosP : List Co → List PV → Prop
  | [], xs => xs = []
  | c :: r, xs => ∃ v xs', xs = v :: xs' ∧ CoP c v ∧ CosP r xs'
theorem CosP.len : ∀ {cs : List Co} {xs : List PV}, CosP cs xs → xs.length = cs.length
  | [], xs, h => by simp only [CosP] at h; simp [h]
  | c :: r, xs, h => by
    simp only [CosP] at h
    obtain ⟨v, xs', rfl, _, h⟩ := h
    simp [CosP.len h]
theorem CosP.at : ∀ {cs : List Co} {xs : List PV} {i : Nat} {c : Co}, CosP cs xs → cs[i]? = some c → ∃ v, xs[i]? = some v ∧ CoP c v
  | [], xs, i, c, _, h => by simp at h
  | x :: r, xs, i, c, h, e => by
    simp only [CosP] at h
    obtain ⟨v, xs', rfl, h1, h2⟩ := h
    cases i with
    | zero => simp at e; subst e; exact ⟨v, rfl, h1⟩
    | succ i => simpa using CosP.at h2 (by simpa using e)
theorem CosP.snoc : ∀ {cs : List Co} {xs : List PV} {c : Co} {v : PV}, CosP cs xs → CoP c v → CosP (cs ++ [c]) (xs ++ [v])
  | [], xs, c, v, h, hv => by
    simp only [CosP] at h
    subst h
    simp only [List.nil_append, CosP]
    exact ⟨v, [], rfl, hv, rfl⟩
  | x :: r, xs, c, v, h, hv => by
    simp only [CosP] at h
    obtain ⟨y, xs', rfl, h1, h2⟩ := h
    simp only [List.cons_append, CosP]
    exact ⟨y, _, rfl, h1, CosP.snoc h2 hv⟩
theorem CosP.pure : ∀ {cs : List Co} {xs : List PV} (n : Nat), CosP cs xs → xs.all (pur (n + 2)) = true
  | [], xs, n, h => by simp only [CosP] at h; subst h; rfl
  | c :: r, xs, n, h => by
    simp only [CosP] at h
    obtain ⟨v, xs', rfl, ⟨b, z, ys, b', z', ys', b'', z'', rfl, -⟩, h2⟩ := h
    rw [List.all_cons, CosP.pure n h2]
    rfl
/-- the forms of constructors; the first error -/
def shapeL (nm : List UInt8) (self : Tm) (fx idx : Int) : List (List UInt8 × Tm) → Int × List Co
  | [] => (0, [])
  | c :: r => if (ctorF nm self fx idx c.2).1 = 0 then (if (shapeL nm self fx idx r).1 = 0 then (0, (ctorF nm self fx idx c.2).2 :: (shapeL nm self fx idx r).2) else ((shapeL nm self fx idx r).1, [])) else ((ctorF nm self fx idx c.2).1, [])
def joinS (g : List Co) (r : Int × List Co) : Int × List Co := if r.1 = 0 then (0, g ++ r.2) else (r.1, [])
theorem joinS_nil {nm : List UInt8} {self : Tm} {fx idx : Int} : ∀ cs, joinS [] (shapeL nm self fx idx cs) = shapeL nm self fx idx cs
  | [] => rfl
  | c :: r => by
    unfold joinS shapeL
    by_cases h1 : (ctorF nm self fx idx c.2).1 = 0
    · rw [if_pos h1]
      by_cases h2 : (shapeL nm self fx idx r).1 = 0
      · rw [if_pos h2, if_pos rfl]
        rfl
      · rw [if_neg h2, if_neg h2]
    · rw [if_neg h1, if_neg h1]
theorem joinS_ok {nm : List UInt8} {self : Tm} {fx idx : Int} {g : List Co} {c : List UInt8 × Tm} {r : List (List UInt8 × Tm)} (h : (ctorF nm self fx idx c.2).1 = 0) : joinS g (shapeL nm self fx idx (c :: r)) = joinS (g ++ [(ctorF nm self fx idx c.2).2]) (shapeL nm self fx idx r) := by
  rw [shapeL, if_pos h]
  unfold joinS
  by_cases h2 : (shapeL nm self fx idx r).1 = 0
  · rw [if_pos h2, if_pos rfl, if_pos h2]
    simp
  · rw [if_neg h2, if_neg h2, if_neg h2]
theorem joinS_bad {nm : List UInt8} {self : Tm} {fx idx : Int} {g : List Co} {c : List UInt8 × Tm} {r : List (List UInt8 × Tm)} (h : ¬ (ctorF nm self fx idx c.2).1 = 0) : joinS g (shapeL nm self fx idx (c :: r)) = ((ctorF nm self fx idx c.2).1, []) := by
  rw [shapeL, if_neg h]
  unfold joinS
  rw [if_neg h]
def shapeE (d : Dc) : Int := if frontD d = 0 then (shapeL d.nm (selfD d) d.fx (idxD d) d.cs).1 else frontD d
def shapeC (d : Dc) : List Co := (shapeL d.nm (selfD d) d.fx (idxD d) d.cs).2
/-- a family's form, as it lies -/
def FamP (idx : Int) (l : Lv) (cs : List Co) (v : PV) : Prop := ∃ b z xs, v = .ag (iv idx :: ((encL l).cells ++ [.sl b z xs])) ∧ (z = 3 ∨ xs = []) ∧ CosP cs xs
theorem fam_in {idx : Int} {l : Lv} {cs : List Co} {w : PV} (h : FamP idx l cs w) : if (0 : Int) = 0 then FamP idx l cs w else w = famZ0 := by
  rw [if_pos rfl]
  exact h
def shS (x y : SO) (fc : List PV) : List PV → Sto
  | [] => [x, y, .box 53 (fc ++ [.sl true 0 []])]
  | v :: r => [x, y, .box 53 (fc ++ [.ms 5 (r.length + 1)]), .dead, .dead, .row false 71 3 (v :: r)]
theorem frontD_ok {d : Dc} (h : frontD d = 0) : formedF d = true ∧ d.k = 5 ∧ d.p < 4 ∧ (piF d.ty).1.length ≤ 16 ∧ aptGo [] (namesD d) = true ∧ d.fx ≤ (piF d.ty).1.length ∧ (piF d.ty).2.kind = 2 := by
  unfold frontD at h
  split at h
  · omega
  · rename_i h1
    obtain ⟨h1, h2⟩ := Decidable.not_not.1 h1
    split at h
    · omega
    · split at h
      · omega
      · rename_i h3 h4
        split at h
        · omega
        · rename_i h5
          refine ⟨h1, h2, by omega, by omega, by simpa using h4, by omega, ?_⟩
          exact Decidable.not_not.1 fun e => h5 (.inr e)
set_option maxHeartbeats 4000000 in
set_option maxRecDepth 100000 in
theorem Shape_can (d : Dc) (v : PV) (h : DcP d v) (hcs : d.cs.length ≤ 1000000) : ∃ w, (if shapeE d = 0 then FamP (idxD d) (lvD d) (shapeC d) w else w = famZ0) ∧ Pf C1 23 [v] [w, iv (shapeE d)] := by
  suffices key : Finds C1 23 [v] [] fun r _ => ∃ w, (if shapeE d = 0 then FamP (idxD d) (lvD d) (shapeC d) w else w = famZ0) ∧ r = .ret [w, iv (shapeE d)] by
    obtain ⟨r, st', ⟨w, h1, rfl⟩, N, hN⟩ := key
    exact ⟨w, h1, _, st', rfl, N, hN⟩
  obtain ⟨M, hM, hb⟩ := begin_can d v h hcs
  have hfd := fun e => formedD (d := d) e
  have hbad : ∀ e, shapeE d = e → e ≠ 0 → ∃ w, (if shapeE d = 0 then FamP (idxD d) (lvD d) (shapeC d) w else w = famZ0) ∧ AEnd.ret [famZ0, iv e] = .ret [w, iv (shapeE d)] := fun e he h0 => ⟨famZ0, by rw [if_neg (by rw [he]; exact h0)], by rw [he]⟩
  by_cases hf : frontD d = 0
  · have hMk := hM hf
    have hE : shapeE d = (shapeL d.nm (selfD d) d.fx (idxD d) d.cs).1 := by rw [shapeE, if_pos hf]
    have hC : shapeC d = (shapeL d.nm (selfD d) d.fx (idxD d) d.cs).2 := rfl
    rw [beginV, if_pos hf, famV] at hb
    obtain ⟨o1, o2, o3, o4, -, o5, -⟩ := frontD_ok hf
    obtain ⟨⟨-, hrt⟩, hk5⟩ := hfd o1
    obtain ⟨hfx01, hcs8, hcsr⟩ := hk5 o2
    have hct := fun (c : List UInt8 × Tm) (hc : c ∈ d.cs) (v : PV) (hv : TmP c.2 v) => ctor_can hMk hfx01 ⟨by unfold idxD; omega, by unfold idxD; omega⟩ (by omega) c.2 v hv (hcsr c hc).2
    generalize idxD d = idx at *
    generalize lvD d = lv at *
    generalize shapeE d = E at *
    generalize shapeC d = CC at *
    generalize selfD d = self at *
    obtain ⟨r1, r2, r3, r4, r5, hr5⟩ := encL_open lv
    rw [hr5] at hb
    obtain ⟨k, p, nm, ty, vl, fx, cs, a1, a2, a3, a4, a5, a6, a7, a8, a9, b1, b2, b3, b4, b5, b6, b7, b8, b9, cb, cz, cx, hty, hvl, hz, hxs, hlen, hnm, hk, hp, hfx⟩ := h
    obtain ⟨kq, e1, e2, e3, e4, e5, e6, e7, e8, e9, e10, e11, j1, j2, js, j3, j4, j5, j6, j7, j8, -⟩ := hMk
    dsimp only at hct hE hC hcs8
    have hcl := hxs.len
    refine run_intro Tryz.func23 rfl rfl rfl ?_
    repeat' ((conv => whnf) ; first | refine gT ?_ | refine gF ?_ | refine VIf.not ?_ | refine gA ?_ | refine gB ?_ | refine VIf.dec (fun h => ?_) (fun h => ?_) | refine gC ?_ | refine gD ?_ | refine VIf.mk (fun h => ?_) (fun h => ?_) | refine gO ?_ | refine gP ?_ | refine VNat.mk _ rfl ?_ | refine gV ?_ | refine vret_pf rfl ?_ | refine vret_take rfl rfl ?_ | refine vcall_pf hb rfl rfl ?_ | refine gK ?_)
    all_goals (try (conv => whnf))
    have hfin : ∀ e q, shapeL nm self fx idx cs = (e, q) → E = e ∧ CC = q := fun e q hq => by
      rw [hE, hC, hq]
      exact ⟨rfl, rfl⟩
    refine loop_over (G := List Co × List PV) (fun g => [(24, iv g.1.length)]) (fun g => shS (.box 46 [iv k, iv p, sv nm, iv a1, iv a2, sv a3, .sl a4 a5 a6, .sl a7 a8 a9, iv b1, iv b2, sv b3, .sl b4 b5 b6, .sl b7 b8 b9, iv fx, .sl cb cz cx]) (.box 53 [iv 0, iv 0, iv 0, .sl true 0 [], .sl true 0 []]) [iv idx, iv r1, iv r2, .sl r3 r4 r5] g.2) (fun g => CosP g.1 g.2 ∧ g.1.length ≤ cs.length ∧ joinS g.1 (shapeL nm self fx idx (cs.drop g.1.length)) = shapeL nm self fx idx cs) (fun g => cs.length - g.1.length) ([], []) ⟨by simp only [CosP], by simp, joinS_nil cs⟩ rfl rfl ?_
    rintro ⟨g, ws⟩ ⟨hg, hgl, hall⟩
    dsimp only at hg hgl hall ⊢
    have hwl := hg.len
    have hstep : ¬ g.length < cs.length ∨ ∃ c w z, cs[g.length]? = some c ∧ cx[g.length]? = some z ∧ LoP c z ∧ CoP (ctorF nm self fx idx c.2).2 w ∧ (∃ s q, z = .ag (sv s :: q) ∧ Pf C1 59 [.cp [iv kq, iv p, sv nm, e1, e2, e3, e4, e5, e6, e7, e8, e9, e10, iv fx, e11, iv j1, iv j2, sv js, .sl j3 j4 j5, .sl j6 j7 j8, iv idx], .ag q] [w, iv (ctorF nm self fx idx c.2).1]) := by
      by_cases hlt : g.length < cs.length
      · obtain ⟨c, hc⟩ : ∃ c, cs[g.length]? = some c := ⟨_, List.getElem?_eq_getElem hlt⟩
        obtain ⟨z, hz1, hz2⟩ := hxs.at hc
        obtain ⟨s, q1, q2, q3, q4, q5, q6, q7, q8, q9, t, rfl, rfl, ht, -⟩ := hz2.open
        obtain ⟨w, hw1, hw2⟩ := hct _ (List.mem_of_getElem? hc) _ ht
        exact .inr ⟨_, w, _, hc, hz1, hz2, hw1, s, _, rfl, hw2⟩
      · exact .inl hlt
    have hcx : ∀ {i : Nat}, ((i : Int) < cx.length) → i < cs.length := fun h => by omega
    cases ws with
    | nil =>
      obtain rfl : g = [] := List.eq_nil_of_length_eq_zero (by simpa using hwl.symm)
      simp only [shS, List.cons_append, List.nil_append]
      repeat' ((conv => whnf) ; first | refine gT ?_ | refine gF ?_ | refine VIf.not ?_ | refine gA ?_ | refine gB ?_ | refine VIf.dec (fun h => ?_) (fun h => ?_) | refine gC ?_ | refine gD ?_ | refine VIf.mk (fun h => ?_) (fun h => ?_) | refine gO ?_ | refine gP ?_ | refine VNat.mk _ rfl ?_ | refine gV ?_ | refine vret_pf rfl ?_ | refine vret_take rfl rfl ?_ | refine gK ?_)
      all_goals (try (conv => whnf))
      · rcases hstep with hno | ⟨c, w, z, hc, hz1, hz2, hw, s, q, rfl, hpf⟩
        · exact absurd (hcx (by assumption)) hno
        · have hd := drop_at hc
          rw [hd] at hall
          obtain ⟨s', q1, q2, q3, q4, q5, q6, q7, q8, q9, t, rfl, hzz, ht, -⟩ := hz2.open
          injection hzz with hzz
          injection hzz with hz3 hz4
          subst hz4
          dsimp only at hpf hw
          have hok := fun e => joinS_ok (g := []) (c := (s', t)) (r := cs.drop (0 + 1)) (nm := nm) (self := self) (fx := fx) (idx := idx) e
          have hko := fun e => joinS_bad (g := []) (c := (s', t)) (r := cs.drop (0 + 1)) (nm := nm) (self := self) (fx := fx) (idx := idx) e
          dsimp only at hok hko
          have hw' := hw
          obtain ⟨w1, w2, w3, w4, w5, w6, w7, w8, rfl, -⟩ := hw'
          generalize ctorF nm self fx idx t = R at hpf hw hok hko
          obtain ⟨re, rc⟩ := R
          dsimp only at hpf hw hok hko
          repeat' ((conv => whnf) ; first | refine gT ?_ | refine gF ?_ | refine VIf.not ?_ | refine gA ?_ | refine gB ?_ | refine VIf.dec (fun h => ?_) (fun h => ?_) | refine gC ?_ | refine gD ?_ | refine VIf.mk (fun h => ?_) (fun h => ?_) | refine gO ?_ | refine gP ?_ | refine VNat.mk _ rfl ?_ | refine gV ?_ | refine vret_pf rfl ?_ | refine vret_take rfl rfl ?_ | refine VIdx.mk _ hz1 ?_ | refine VOk.mk (szOk_of rfl hz) ?_ | refine vcall_pf hpf rfl rfl ?_ | refine gK ?_)
          all_goals (try (conv => whnf))
          · have e := hok (by assumption)
            refine VAgain.mk _ rfl _ (gc_sh (.cons (sh_box rfl rfl) (.cons (sh_box rfl rfl) (.cons (sh_box rfl rfl) (.cons (sh_box rfl rfl) (.cons (sh_box rfl rfl) (.cons (sh_row rfl) .nil)))))) (.cons (sh_box rfl rfl) (.cons (sh_box rfl rfl) (.cons (sh_box rfl rfl) (.cons sh_dead (.cons sh_dead (.cons (sh_row rfl) .nil)))))) rfl rfl rfl rfl rfl) ⟨([rc], [.ag [.sl w1 w2 w3, .sl w4 w5 w6, .sl w7 w8 (ints rc.ar)]]), ⟨by simp only [CosP]; exact ⟨_, _, rfl, hw, rfl⟩, by simp only [List.length_cons, List.length_nil]; have := hcx (i := 0) (by assumption); omega, ?_⟩, by simp only [List.length_cons, List.length_nil]; have := hcx (i := 0) (by assumption); omega, rfl⟩
            rw [← hall]
            exact e.symm
          · exact hbad re (hfin _ _ (hall.symm.trans (hko (by assumption)))).1 (by assumption)
      · have hno : ¬ 0 < cs.length := fun e => by
          have h9 : ¬ ((List.length ([] : List Co) : Nat) : Int) < cx.length := by assumption
          simp only [List.length_nil] at h9
          omega
        have hnil : cs = [] := List.eq_nil_of_length_eq_zero (by omega)
        rw [hnil] at hall
        obtain ⟨q1, q2⟩ := hfin 0 [] (by rw [hnil]; rfl)
        subst q1 q2
        exact ⟨.ag [iv idx, iv r1, iv r2, .sl r3 r4 r5, .sl true 0 []], fam_in ⟨_, _, _, by rw [hr5]; rfl, .inr rfl, by simp only [CosP]⟩, rfl⟩
    | cons w0 wr =>
      have hgn : g.length = wr.length + 1 := by simpa using hwl.symm
      have hp8 : (w0 :: wr).all (pur 8) = true := hg.pure 6
      simp only [shS, List.cons_append, List.nil_append]
      repeat' ((conv => whnf) ; first | refine gT ?_ | refine gF ?_ | refine VIf.not ?_ | refine gA ?_ | refine gB ?_ | refine VIf.dec (fun h => ?_) (fun h => ?_) | refine gC ?_ | refine gD ?_ | refine VIf.mk (fun h => ?_) (fun h => ?_) | refine gO ?_ | refine gP ?_ | refine VNat.mk _ rfl ?_ | refine gV ?_ | refine vret_pf rfl ?_ | refine vret_take rfl rfl ?_ | refine gK ?_)
      all_goals (try (conv => whnf))
      · rcases hstep with hno | ⟨c, w, z, hc, hz1, hz2, hw, s, q, rfl, hpf⟩
        · exact absurd (hcx (by assumption)) hno
        · have hlt := hcx (by assumption)
          have hd := drop_at hc
          rw [hd] at hall
          obtain ⟨s', q1, q2, q3, q4, q5, q6, q7, q8, q9, t, rfl, hzz, ht, -⟩ := hz2.open
          injection hzz with hzz
          injection hzz with hz3 hz4
          subst hz4
          dsimp only at hpf hw
          have hok := fun e => joinS_ok (g := g) (c := (s', t)) (r := cs.drop (g.length + 1)) (nm := nm) (self := self) (fx := fx) (idx := idx) e
          have hko := fun e => joinS_bad (g := g) (c := (s', t)) (r := cs.drop (g.length + 1)) (nm := nm) (self := self) (fx := fx) (idx := idx) e
          dsimp only at hok hko
          have hw' := hw
          obtain ⟨w1, w2, w3, w4, w5, w6, w7, w8, rfl, -⟩ := hw'
          generalize ctorF nm self fx idx t = R at hpf hw hok hko
          obtain ⟨re, rc⟩ := R
          dsimp only at hpf hw hok hko
          have hsn := hg.snoc hw
          have hp8 : (w0 :: wr ++ [PV.ag [.sl w1 w2 w3, .sl w4 w5 w6, .sl w7 w8 (ints rc.ar)]]).all (pur 8) = true := hsn.pure 6
          have hrl : (w0 :: wr).length = wr.length + 1 := rfl
          repeat' ((conv => whnf) ; first | refine gT ?_ | refine gF ?_ | refine VIf.not ?_ | refine gA ?_ | refine gB ?_ | refine VIf.dec (fun h => ?_) (fun h => ?_) | refine gC ?_ | refine gD ?_ | refine VIf.mk (fun h => ?_) (fun h => ?_) | refine gO ?_ | refine gP ?_ | refine VNat.mk _ rfl ?_ | refine gV ?_ | refine vret_pf rfl ?_ | refine vret_take rfl rfl ?_ | refine VIdx.mk _ hz1 ?_ | refine VOk.mk (szOk_of rfl hz) ?_ | refine vcall_pf hpf rfl rfl ?_ | refine VOk.mk (grow_ok (w := 72) (r := 140737488355328) hrl rfl rfl rfl rfl (by simp only [List.length_cons, List.length_nil]; omega) (by simp only [List.length_cons, List.length_nil]; omega)) ?_ | refine gK ?_)
          all_goals (try (conv => whnf))
          · have e := hok (by assumption)
            refine VAgain.mk _ rfl _ (gc_sh (.cons (sh_box rfl rfl) (.cons (sh_box rfl rfl) (.cons (sh_box rfl rfl) (.cons sh_dead (.cons sh_dead (.cons (sh_row hp8) (.cons (sh_box rfl rfl) (.cons (sh_box rfl rfl) .nil)))))))) (.cons (sh_box rfl rfl) (.cons (sh_box rfl rfl) (.cons (sh_box rfl rfl) (.cons sh_dead (.cons sh_dead (.cons (sh_row hp8) .nil)))))) rfl rfl rfl rfl rfl) ⟨(g ++ [rc], w0 :: wr ++ [.ag [.sl w1 w2 w3, .sl w4 w5 w6, .sl w7 w8 (ints rc.ar)]]), ⟨hsn, by simp only [List.length_append, List.length_cons, List.length_nil]; omega, ?_⟩, by simp only [List.length_append, List.length_cons, List.length_nil]; omega, ?_⟩
            · simp only [List.length_append, List.length_cons, List.length_nil]
              rw [← hall]
              exact e.symm
            · have e2 : (wr ++ [PV.ag [.sl w1 w2 w3, .sl w4 w5 w6, .sl w7 w8 (ints rc.ar)]]).length + 1 = wr.length + 1 + 1 := by simp
              have e3 : (((g ++ [rc]).length : Nat) : Int) = (g.length : Int) + 1 := by simp
              dsimp only [shS, List.cons_append]
              rw [e2, e3]
              rfl
          · exact hbad re (hfin _ _ (hall.symm.trans (hko (by assumption)))).1 (by assumption)
      · have hno : ¬ g.length < cs.length := fun e => by
          have h9 : ¬ ((g.length : Nat) : Int) < cx.length := by assumption
          omega
        rw [List.drop_of_length_le (by omega)] at hall
        have hj : joinS g (shapeL nm self fx idx []) = (0, g) := by simp [joinS, shapeL]
        rw [hj] at hall
        obtain ⟨q1, q2⟩ := hfin 0 g hall.symm
        refine vret_pub rfl (mapS_cons (pubV_ag (mapS_cons rfl (mapS_cons rfl (mapS_cons rfl (mapS_cons rfl (mapS_cons (pubV_row rfl rfl (hg.pure 4)) mapS_nil)))))) (mapS_cons rfl mapS_nil)) rfl ?_
        subst q1 q2
        exact ⟨.ag [iv idx, iv r1, iv r2, .sl r3 r4 r5, .sl false 3 (w0 :: wr)], fam_in ⟨_, _, _, by rw [hr5]; rfl, .inl rfl, hg⟩, rfl⟩
  · rw [beginV, if_neg hf] at hb
    have hE : shapeE d = frontD d := by rw [shapeE, if_neg hf]
    have hr := hbad _ hE hf
    generalize frontD d = e at hb hr hf
    obtain ⟨k, p, nm, ty, vl, fx, cs, a1, a2, a3, a4, a5, a6, a7, a8, a9, b1, b2, b3, b4, b5, b6, b7, b8, b9, cb, cz, cx, hty, hvl, hz, hxs, hlen, hnm, hk, hp, hfx⟩ := h
    refine run_intro Tryz.func23 rfl rfl rfl ?_
    repeat' ((conv => whnf) ; first | refine gT ?_ | refine gF ?_ | refine VIf.not ?_ | refine gA ?_ | refine gB ?_ | refine VIf.dec (fun h => ?_) (fun h => ?_) | refine gC ?_ | refine gD ?_ | refine VIf.mk (fun h => ?_) (fun h => ?_) | refine gO ?_ | refine gP ?_ | refine VNat.mk _ rfl ?_ | refine gV ?_ | refine vret_pf rfl ?_ | refine vret_take rfl rfl ?_ | refine vcall_pf hb rfl rfl ?_ | refine gK ?_)
    all_goals (try (conv => whnf))
    exact hr
end Go.Proofs.YtehhihdahalfeaaGreatDoor

/-
  The law PositForms in the plain machine. No statement of the seat.
-/
import Derived.Test.YtehhihdahalfeaaGreatDoorZDg
import Derived.Test.YtehhihdahalfeaaGreatDoorZDi
import Derived.Test.YtehhihdahalfeaaGreatDoorZBe
set_option linter.unusedVariables false
set_option linter.unusedSimpArgs false
set_option linter.unnecessarySimpa false
namespace Go.Proofs.YtehhihdahalfeaaGreatDoor
open Go Go.Am Go.Gw
theorem vr_P {n : Int} (h : i64 n) : TmP (vr n) (.ag [iv 1, iv n, sv [], .sl true 0 [], .sl true 0 []]) := by
  simp only [vr, TmP]
  exact ⟨_, _, _, _, _, _, rfl, .inr rfl, by simp only [LvsP], by simp, .inr rfl, by simp only [TmsP], by simp, by simp, h⟩
theorem two_P {k : Int} {T U : Tm} {V W : PV} (h1 : TmP T V) (h2 : TmP U W) : TmP (.mk k 0 [] [] [T, U]) (.ag [iv k, iv 0, sv [], .sl true 0 [], .sl true 5 [V, W]]) := by
  simp only [TmP]
  exact ⟨_, _, _, _, _, _, rfl, .inr rfl, by simp only [LvsP], by simp, .inl rfl, by simp only [TmsP]; exact ⟨_, _, rfl, h1, _, _, rfl, h2, rfl⟩, by simp, by simp, by unfold i64; omega⟩
theorem sneqb {x y : Operand} {a c : Bool} : slowBin C2.P .neq 4 x y (bv a) (bv c) = some (bv (a != c)) := by
  cases a <;> cases c <;> kernel_rfl
theorem varsL_succ (deep : Int) (n : Nat) : varsL deep 0 (n + 1) = varsL deep 0 n ++ [vr (deep - 1 - (n : Int))] := by
  unfold varsL
  rw [List.range_succ, List.map_append]
  simp
theorem shapeL_all {nm : List UInt8} {self : Tm} {fx idx : Int} : ∀ (cs : List (List UInt8 × Tm)) (l : List Co), shapeL nm self fx idx cs = (0, l) → l.length = cs.length ∧ ∀ (i : Nat) c co, cs[i]? = some c → l[i]? = some co → ctorF nm self fx idx c.2 = (0, co)
  | [], l, h => by
    simp only [shapeL, Prod.mk.injEq] at h
    obtain ⟨-, rfl⟩ := h
    exact ⟨rfl, fun i c co h => by simp at h⟩
  | c :: r, l, h => by
    rw [shapeL] at h
    split at h
    · rename_i h1
      split at h
      · rename_i h2
        injection h with h3 h4
        subst h4
        obtain ⟨q1, q2⟩ := shapeL_all r _ (Prod.ext h2 rfl)
        refine ⟨by simp [q1], fun i c' co hc hco => ?_⟩
        cases i with
        | zero =>
          simp at hc hco
          subst hc hco
          exact Prod.ext h1 rfl
        | succ i => exact q2 i c' co (by simpa using hc) (by simpa using hco)
      · rename_i h2
        injection h with h3 h4
        exact absurd h3 h2
    · rename_i h1
      injection h with h3 h4
      exact absurd h3 h1
theorem parL_enc (i : Nat) : (PV.sl false 3 ((parL (i + 1)).map encL)) = encLv (parL (i + 1)) := by
  have : parL (i + 1) = .mk 2 0 [] :: (List.range i).map (fun (j : Nat) => Lv.mk 2 ((j + 1 : Nat) : Int) []) := by simp [parL, List.range_succ_eq_map]
  rw [this, encLv, encLs_eq]
def ownS (D F : SO) (nm : List UInt8) : Nat → Sto
  | 0 => [D, F, .box 25 [iv 3, iv 0, sv nm, .sl true 0 [], .sl true 0 []]]
  | i + 1 => [D, F, .box 25 [iv 3, iv 0, sv nm, .ms 3 (i + 1), .sl true 0 []], .row false 50 3 ((parL (i + 1)).map encL)]
set_option maxHeartbeats 100000000 in
set_option maxRecDepth 100000 in
theorem PositForms_can (d : Dc) (v : PV) (h : DcP d v) : Pf C2 5 [v] [bv true] := by
  have hal := up2 rfl alive18_can
  obtain ⟨gb, hgb, hg⟩ := GreatD_can d v h
  replace hg := up2 rfl hg
  cases gb with
  | true =>
    obtain ⟨k, p, nm, ty, vl, fx, cs, a1, a2, a3, a4, a5, a6, a7, a8, a9, b1, b2, b3, b4, b5, b6, b7, b8, b9, cb, cz, cx, -⟩ := h
    refine run_intro Tryz.func5 rfl rfl rfl ?_
    repeat' ((conv => whnf) ; first | refine gT ?_ | refine gF ?_ | refine VIf.not ?_ | refine gA ?_ | refine gB ?_ | refine VIf.dec (fun h => ?_) (fun h => ?_) | refine gC ?_ | refine gD ?_ | refine VIf.mk (fun h => ?_) (fun h => ?_) | refine gO ?_ | refine gP ?_ | refine VNat.mk _ rfl ?_ | refine gV ?_ | refine vret_pf rfl ?_ | refine vret_take rfl rfl ?_ | refine vcall_pf hal rfl rfl ?_ | refine vcall_pf hg rfl rfl ?_ | refine gK ?_)
    all_goals (try (conv => whnf))
  | false =>
    obtain ⟨w, hw, hsh⟩ := Shape_can d v h (by have := hgb rfl; omega)
    replace hsh := up2 rfl hsh
    by_cases hE : shapeE d = 0
    · rw [if_pos hE] at hw
      have hf : frontD d = 0 := by
        unfold shapeE at hE
        split at hE
        · assumption
        · exact hE
      obtain ⟨o1, o2, o3, o4, -, o5, -⟩ := frontD_ok hf
      obtain ⟨⟨-, hrt⟩, hk5⟩ := formedD o1
      obtain ⟨hfx01, hcs8, hcsr⟩ := hk5 o2
      have hp0 := (rightT_parts hrt).1
      have hsL : shapeL d.nm (selfD d) d.fx (idxD d) d.cs = (0, shapeC d) := Prod.ext (by rw [shapeE, if_pos hf] at hE; exact hE) rfl
      obtain ⟨hcl, hcf⟩ := shapeL_all _ _ hsL
      have hix : 0 ≤ idxD d ∧ idxD d ≤ 16 := by unfold idxD; omega
      have hself : selfD d = .mk 3 0 d.nm (parL d.p.toNat) [] := rfl
      rw [hE] at hsh
      generalize selfD d = self at hcf hself
      generalize idxD d = idx at *
      generalize lvD d = lv at *
      generalize shapeC d = CC at *
      obtain ⟨fb, fz, fX, rfl, hfz, hfX⟩ := hw
      obtain ⟨r1, r2, r3, r4, r5, hr5⟩ := encL_open lv
      rw [hr5] at hsh
      have hXl := hfX.len
      obtain ⟨k, p, nm, ty, vl, fx, cs, a1, a2, a3, a4, a5, a6, a7, a8, a9, b1, b2, b3, b4, b5, b6, b7, b8, b9, cb, cz, cx, hty, hvl, hz, hxs, hlen, hnm, hk, hp, hfx⟩ := h
      dsimp only at hcf hself hcs8 hcsr hfx01 o3 o2 hp0 hcl
      obtain ⟨P0, rfl⟩ := Int.eq_ofNat_of_zero_le hp0.1
      obtain ⟨f, rfl⟩ := Int.eq_ofNat_of_zero_le hfx01.1
      rw [Int.toNat_natCast] at hself
      have hcxl := hxs.len
      refine run_intro Tryz.func5 rfl rfl rfl ?_
      repeat' ((conv => whnf) ; first | refine gT ?_ | refine gF ?_ | refine VIf.not ?_ | refine gA ?_ | refine gB ?_ | refine VIf.dec (fun h => ?_) (fun h => ?_) | refine gC ?_ | refine gD ?_ | refine VIf.mk (fun h => ?_) (fun h => ?_) | refine gO ?_ | refine gP ?_ | refine VNat.mk _ rfl ?_ | refine gV ?_ | refine vret_pf rfl ?_ | refine vret_take rfl rfl ?_ | refine vcall_pf hal rfl rfl ?_ | refine vcall_pf hg rfl rfl ?_ | refine vcall_pf hsh rfl rfl ?_ | refine VPub.mk _ _ (pubV_pure rfl) ?_ | refine gK ?_)
      all_goals (try (conv => whnf))
      · refine loop_over (G := Nat) (fun i => [(6, iv i)]) (ownS (.box 46 [iv k, iv ((P0 : Nat) : Int), sv nm, iv a1, iv a2, sv a3, .sl a4 a5 a6, .sl a7 a8 a9, iv b1, iv b2, sv b3, .sl b4 b5 b6, .sl b7 b8 b9, iv ((f : Nat) : Int), .sl cb cz cx]) (.box 53 [iv idx, iv r1, iv r2, .sl r3 r4 r5, .sl fb fz fX]) nm) (fun i => i ≤ P0) (fun i => P0 - i) 0 (by omega) rfl rfl ?_
        intro j hj
        obtain ⟨q1, q2, q3, q4, q5, hq5⟩ : ∃ q1 q2 q3 q4 q5, encL (.mk 2 (j : Int) []) = .ag [iv q1, iv q2, .sl q3 q4 q5] := ⟨_, _, _, _, _, rfl⟩
        have hsn : (parL (j + 1)).map encL = (parL j).map encL ++ [.ag [iv 2, iv (j : Int), .sl true 0 []]] := by simp [parL, List.range_succ, encL]
        cases j with
        | zero =>
          simp only [ownS]
          repeat' ((conv => whnf) ; first | refine gT ?_ | refine gF ?_ | refine VIf.not ?_ | refine gA ?_ | refine gB ?_ | refine VIf.dec (fun h => ?_) (fun h => ?_) | refine gC ?_ | refine gD ?_ | refine VIf.mk (fun h => ?_) (fun h => ?_) | refine gO ?_ | refine gP ?_ | refine VNat.mk _ rfl ?_ | refine gV ?_ | refine vret_pf rfl ?_ | refine vret_take rfl rfl ?_ | refine gK ?_)
          all_goals (try (conv => whnf))
          · refine VAgain.mk _ rfl _ (gc_sh (.cons (sh_box rfl rfl) (.cons (sh_box rfl rfl) (.cons (sh_box rfl rfl) (.cons (sh_row rfl) .nil)))) (.cons (sh_box rfl rfl) (.cons (sh_box rfl rfl) (.cons (sh_box rfl rfl) (.cons (sh_row rfl) .nil)))) rfl rfl rfl rfl rfl) ⟨1, by omega, by omega, ?_⟩
            dsimp only [ownS]
            rw [hsn]
            rfl
          · obtain rfl : P0 = 0 := by omega
            refine loop_over (G := Nat) (fun i => [(7, iv i)]) (fun i => [.box 46 [iv k, iv ((0 : Nat) : Int), sv nm, iv a1, iv a2, sv a3, .sl a4 a5 a6, .sl a7 a8 a9, iv b1, iv b2, sv b3, .sl b4 b5 b6, .sl b7 b8 b9, iv ((f : Nat) : Int), .sl cb cz cx], .box 53 [iv idx, iv r1, iv r2, .sl r3 r4 r5, .sl fb fz fX], .box 25 [iv 3, iv 0, sv nm, .sl true 0 [], .sl true 0 []]]) (fun i => i ≤ CC.length) (fun i => CC.length - i) 0 (by omega) rfl rfl ?_
            intro i hi
            repeat' ((conv => whnf) ; first | refine gT ?_ | refine gF ?_ | refine VIf.not ?_ | refine gA ?_ | refine gB ?_ | refine VIf.dec (fun h => ?_) (fun h => ?_) | refine gC ?_ | refine gD ?_ | refine VIf.mk (fun h => ?_) (fun h => ?_) | refine gO ?_ | refine gP ?_ | refine VNat.mk _ rfl ?_ | refine gV ?_ | refine vret_pf rfl ?_ | refine vret_take rfl rfl ?_ | refine gK ?_)
            all_goals (try (conv => whnf))
            have hlt : i < CC.length := by omega
            obtain ⟨co, hco⟩ : ∃ co, CC[i]? = some co := ⟨_, List.getElem?_eq_getElem hlt⟩
            obtain ⟨c, hc⟩ : ∃ c, cs[i]? = some c := ⟨_, List.getElem?_eq_getElem (by omega)⟩
            obtain ⟨z, hz1, hz2⟩ := hfX.at hco
            obtain ⟨y, hy1, hy2⟩ := hxs.at hc
            have hcm := List.mem_of_getElem? hc
            obtain ⟨f1, f2, f3, f4, f5, f6, f7, f8⟩ := ctor_facts (hcsr c hcm).2 hix.1 (hcf i c co hc hco)
            obtain ⟨xb, xz, X, yb, yz, Y, ib, iz, rfl, hXz, hXP, hYz, hYP, hIz⟩ := hz2
            obtain ⟨sc, j1, j2, j3, j4, j5, j6, j7, j8, j9, tc, rfl, rfl, hT, -⟩ := hy2.open
            have lX := hXP.len
            have lY := hYP.len
            have lI : (ints co.ar).length = co.ar.length := by simp [ints]
            have hIz2 : iz = 1 ∨ ints co.ar = [] := hIz.imp id (fun e => by rw [e]; rfl)
            repeat' ((conv => whnf) ; first | refine gT ?_ | refine gF ?_ | refine VIf.not ?_ | refine gA ?_ | refine gB ?_ | refine VIf.dec (fun h => ?_) (fun h => ?_) | refine gC ?_ | refine gD ?_ | refine VIf.mk (fun h => ?_) (fun h => ?_) | refine gO ?_ | refine gP ?_ | refine VNat.mk _ rfl ?_ | refine gV ?_ | refine vret_pf rfl ?_ | refine vret_take rfl rfl ?_ | refine VIdx.mk _ hz1 ?_ | refine VOk.mk (szOk_of rfl hfz) ?_ | refine VPub.mk _ _ (pubV_pure rfl) ?_ | refine VPub.mk _ _ (pubV_ag (mapS_cons rfl (mapS_cons rfl (mapS_cons rfl (mapS_cons (pubV_row rfl (by simp [parL]) (encLs_pure _ 4)) (mapS_cons rfl mapS_nil)))))) ?_ | refine gK ?_)
            all_goals (try (conv => whnf))
            all_goals try (exfalso; omega)
            have hselfP : TmP self (.ag [iv 3, iv 0, sv nm, .sl true 0 [], .sl true 0 []]) := by rw [hself]; exact self_P nm _ (by omega) hnm _ _ _ rfl
            dsimp only at f1 f2 f8
            have hpl : (piF tc).1.length = X.length + f := by rw [lX, f2, List.length_drop]; omega
            have hX16 : X.length ≤ 16 := by omega
            have hY16 : Y.length ≤ 16 := by omega
            refine loop_over (G := Nat × Tm × PV) (fun g => [(11, iv g.1)]) (fun g => [.box 46 [iv k, iv ((0 : Nat) : Int), sv nm, iv a1, iv a2, sv a3, .sl a4 a5 a6, .sl a7 a8 a9, iv b1, iv b2, sv b3, .sl b4 b5 b6, .sl b7 b8 b9, iv ((f : Nat) : Int), .sl cb cz cx], .box 53 [iv idx, iv r1, iv r2, .sl r3 r4 r5, .sl fb fz fX], .box 25 [iv 3, iv 0, sv nm, .sl true 0 [], .sl true 0 []]] ++ [.box 71 [.sl xb xz X, .sl yb yz Y, .sl ib iz (ints co.ar)], .box 25 g.2.2.cells]) (fun g => g.1 ≤ f ∧ TmP g.2.1 g.2.2 ∧ g.2.1 = appsT self (varsL ((X.length : Int) + f) 0 g.1)) (fun g => f - g.1) (0, self, .ag [iv 3, iv 0, sv nm, .sl true 0 [], .sl true 0 []]) ⟨by omega, hselfP, rfl⟩ rfl rfl ?_
            rintro ⟨a, u, w⟩ ⟨ha, hu, hue⟩
            dsimp only at ha hu hue ⊢
            obtain ⟨e1, e2, e3, e4, e5, e6, e7, e8, e9, e10, e11, he8, rfl, -⟩ := hu.open
            simp only [PV.cells, List.cons_append, List.nil_append]
            repeat' ((conv => whnf) ; first | refine gT ?_ | refine gF ?_ | refine VIf.not ?_ | refine gA ?_ | refine gB ?_ | refine VIf.dec (fun h => ?_) (fun h => ?_) | refine gC ?_ | refine gD ?_ | refine VIf.mk (fun h => ?_) (fun h => ?_) | refine gO ?_ | refine gP ?_ | refine VNat.mk _ rfl ?_ | refine gV ?_ | refine vret_pf rfl ?_ | refine vret_take rfl rfl ?_ | refine VPub.mk _ _ (pubV_pure rfl) ?_ | refine gK ?_)
            all_goals (try (conv => whnf))
            · refine VAgain.mk _ rfl _ (gc_same rfl) ⟨(a + 1, ap u (vr ((X.length : Int) + f - 1 - a)), .ag [iv 4, iv 0, sv [], .sl true 0 [], .sl true 5 [.ag [iv e1, iv e2, sv e3, .sl e6 e7 e8, .sl e9 e10 e11], .ag [iv 1, iv ((X.length : Int) + f - 1 - a), sv [], .sl true 0 [], .sl true 0 []]]]), ⟨by dsimp only; omega, two_P hu (vr_P (by unfold i64; omega)), by dsimp only; rw [varsL_succ, appsT_snoc, hue]⟩, by dsimp only; omega, rfl⟩
            have haf : a = f := by omega
            rw [haf] at hue
            refine loop_over (G := Nat × Tm × PV) (fun g => [(12, iv g.1)]) (fun g => [.box 46 [iv k, iv ((0 : Nat) : Int), sv nm, iv a1, iv a2, sv a3, .sl a4 a5 a6, .sl a7 a8 a9, iv b1, iv b2, sv b3, .sl b4 b5 b6, .sl b7 b8 b9, iv ((f : Nat) : Int), .sl cb cz cx], .box 53 [iv idx, iv r1, iv r2, .sl r3 r4 r5, .sl fb fz fX], .box 25 [iv 3, iv 0, sv nm, .sl true 0 [], .sl true 0 []]] ++ [.box 71 [.sl xb xz X, .sl yb yz Y, .sl ib iz (ints co.ar)], .box 25 g.2.2.cells]) (fun g => g.1 ≤ Y.length ∧ TmP g.2.1 g.2.2 ∧ g.2.1 = appsT self (varsL ((X.length : Int) + f) 0 f ++ co.tg.take g.1)) (fun g => Y.length - g.1) (0, u, .ag [iv e1, iv e2, sv e3, .sl e6 e7 e8, .sl e9 e10 e11]) ⟨by omega, hu, by simpa using hue⟩ rfl rfl ?_
            clear hu hue he8
            rintro ⟨q, u, w⟩ ⟨hq, hu, hue⟩
            dsimp only at hq hu hue ⊢
            obtain ⟨g1, g2, g3, g4, g5, g6, g7, g8, g9, g10, g11, he8, rfl, -⟩ := hu.open
            simp only [PV.cells, List.cons_append, List.nil_append]
            repeat' ((conv => whnf) ; first | refine gT ?_ | refine gF ?_ | refine VIf.not ?_ | refine gA ?_ | refine gB ?_ | refine VIf.dec (fun h => ?_) (fun h => ?_) | refine gC ?_ | refine gD ?_ | refine VIf.mk (fun h => ?_) (fun h => ?_) | refine gO ?_ | refine gP ?_ | refine VNat.mk _ rfl ?_ | refine gV ?_ | refine vret_pf rfl ?_ | refine vret_take rfl rfl ?_ | refine gK ?_)
            all_goals (try (conv => whnf))
            · obtain ⟨tg, htg⟩ : ∃ tg, co.tg[q]? = some tg := ⟨_, List.getElem?_eq_getElem (by omega)⟩
              obtain ⟨tv, htv, htP⟩ := hYP.at htg
              have ho := up2 rfl (Occurs_can tg _ htP nm)
              rw [show decide (nm ∈ ConstsF tg) = false from f6 tg (List.mem_of_getElem? htg)] at ho
              obtain ⟨m1, m2, m3, m4, m5, m6, m7, m8, m9, m10, m11, hm, rfl, -⟩ := htP.open
              repeat' ((conv => whnf) ; first | refine gT ?_ | refine gF ?_ | refine VIf.not ?_ | refine gA ?_ | refine gB ?_ | refine VIf.dec (fun h => ?_) (fun h => ?_) | refine gC ?_ | refine gD ?_ | refine VIf.mk (fun h => ?_) (fun h => ?_) | refine gO ?_ | refine gP ?_ | refine VNat.mk _ rfl ?_ | refine gV ?_ | refine vret_pf rfl ?_ | refine vret_take rfl rfl ?_ | refine VIdx.mk _ htv ?_ | refine VOk.mk (szOk_of rfl hYz) ?_ | refine vcall_pf ho rfl rfl ?_ | refine finds_pf ho (fun _ => ?_) | refine gK ?_)
              all_goals (try (conv => whnf))
              refine VAgain.mk _ rfl _ (gc_same rfl) ⟨(q + 1, ap u tg, .ag [iv 4, iv 0, sv [], .sl true 0 [], .sl true 5 [.ag [iv g1, iv g2, sv g3, .sl g6 g7 g8, .sl g9 g10 g11], .ag [iv m1, iv m2, sv m3, .sl m6 m7 m8, .sl m9 m10 m11]]]), ⟨by dsimp only; omega, two_P hu htP, by dsimp only; rw [take_snoc' htg, ← List.append_assoc, appsT_snoc, hue]⟩, by dsimp only; omega, rfl⟩
            have hqY : q = Y.length := by omega
            rw [hqY, List.take_of_length_le (by omega)] at hue
            refine loop_over (G := Nat × Tm × PV) (fun g => [(13, iv ((X.length : Int) - 1 - g.1))]) (fun g => [.box 46 [iv k, iv ((0 : Nat) : Int), sv nm, iv a1, iv a2, sv a3, .sl a4 a5 a6, .sl a7 a8 a9, iv b1, iv b2, sv b3, .sl b4 b5 b6, .sl b7 b8 b9, iv ((f : Nat) : Int), .sl cb cz cx], .box 53 [iv idx, iv r1, iv r2, .sl r3 r4 r5, .sl fb fz fX], .box 25 [iv 3, iv 0, sv nm, .sl true 0 [], .sl true 0 []]] ++ [.box 71 [.sl xb xz X, .sl yb yz Y, .sl ib iz (ints co.ar)], .box 25 g.2.2.cells]) (fun g => g.1 ≤ X.length ∧ TmP g.2.1 g.2.2 ∧ g.2.1 = pisT (co.fs.drop (X.length - g.1)) (appsT self (varsL ((X.length : Int) + f) 0 f ++ co.tg))) (fun g => X.length - g.1) (0, u, .ag [iv g1, iv g2, sv g3, .sl g6 g7 g8, .sl g9 g10 g11]) ⟨by omega, hu, by dsimp only; rw [List.drop_of_length_le (by omega), pisT, hue]⟩ (by rw [show ((X.length : Int) - 1 - ((0 : Nat) : Int)) = X.length - 1 by omega]; rfl) rfl ?_
            clear hu hue
            rintro ⟨jj, u, w⟩ ⟨hj, hu, hue⟩
            dsimp only at hj hu hue ⊢
            obtain ⟨n1, n2, n3, n4, n5, n6, n7, n8, n9, n10, n11, hn, rfl, -⟩ := hu.open
            simp only [PV.cells, List.cons_append, List.nil_append]
            repeat' ((conv => whnf) ; first | refine gT ?_ | refine gF ?_ | refine VIf.not ?_ | refine gA ?_ | refine gB ?_ | refine VIf.dec (fun h => ?_) (fun h => ?_) | refine gC ?_ | refine gD ?_ | refine VIf.mk (fun h => ?_) (fun h => ?_) | refine gO ?_ | refine gP ?_ | refine VNat.mk _ rfl ?_ | refine gV ?_ | refine vret_pf rfl ?_ | refine vret_take rfl rfl ?_ | refine gK ?_)
            all_goals (try (conv => whnf))
            · have hjx : X.length - 1 - jj < X.length := by omega
              obtain ⟨tg, htg⟩ : ∃ tg, co.fs[X.length - 1 - jj]? = some tg := ⟨_, List.getElem?_eq_getElem (by omega)⟩
              obtain ⟨ai, hai⟩ : ∃ ai, co.ar[X.length - 1 - jj]? = some ai := ⟨_, List.getElem?_eq_getElem (by omega)⟩
              obtain ⟨tv, htv, htP⟩ := hXP.at htg
              have hai' : (ints co.ar)[X.length - 1 - jj]? = some (iv ai) := by rw [ints, List.getElem?_map, hai]; rfl
              have ho := up2 rfl (Occurs_can tg _ htP nm)
              rw [show decide (nm ∈ ConstsF tg) = decide (0 ≤ ai) from (f7 _ _ _ hai htg).symm] at ho
              obtain ⟨m1, m2, m3, m4, m5, m6, m7, m8, m9, m10, m11, hm, rfl, -⟩ := htP.open
              repeat' ((conv => whnf) ; first | refine gT ?_ | refine gF ?_ | refine VIf.not ?_ | refine gA ?_ | refine gB ?_ | refine VIf.dec (fun h => ?_) (fun h => ?_) | refine gC ?_ | refine gD ?_ | refine VIf.mk (fun h => ?_) (fun h => ?_) | refine gO ?_ | refine gP ?_ | refine VNat.mk _ rfl ?_ | refine gV ?_ | refine vret_pf rfl ?_ | refine vret_take rfl rfl ?_ | refine VNat.mk (X.length - 1 - jj) (show ((X.length : Int) - 1 - jj) = ((X.length - 1 - jj : Nat) : Int) by omega) ?_ | refine VIdx.mk _ hai' ?_ | refine VIdx.mk _ htv ?_ | refine VOk.mk (szOk_of rfl hIz2) ?_ | refine VOk.mk (szOk_of rfl hXz) ?_ | refine vcall_pf ho rfl rfl ?_ | refine finds_pf ho (fun _ => ?_) | refine VRes.mk _ sneqb ?_ | refine VIf.ff (bne_self_eq_false _) ?_ | refine gK ?_)
              all_goals (try (conv => whnf))
              · have hdr : co.fs.drop (X.length - (jj + 1)) = tg :: co.fs.drop (X.length - jj) := by
                  have := drop_at htg
                  rw [show X.length - 1 - jj + 1 = X.length - jj by omega] at this
                  rw [show X.length - (jj + 1) = X.length - 1 - jj by omega]
                  exact this
                refine VAgain.mk _ rfl _ (gc_same rfl) ⟨(jj + 1, pi_ tg u, .ag [iv 6, iv 0, sv [], .sl true 0 [], .sl true 5 [.ag [iv m1, iv m2, sv m3, .sl m6 m7 m8, .sl m9 m10 m11], .ag [iv n1, iv n2, sv n3, .sl n6 n7 n8, .sl n9 n10 n11]]]), ⟨by dsimp only; omega, two_P htP hu, by dsimp only; rw [hdr, pisT, hue]⟩, by dsimp only; omega, ?_⟩
                dsimp only
                rw [show ((X.length : Int) - 1 - ((jj + 1 : Nat) : Int)) = X.length - 1 - jj - 1 by omega]
                rfl
              · exact absurd rfl (by assumption)
            have hjX : jj = X.length := by omega
            rw [hjX, Nat.sub_self, List.drop_zero] at hue
            have f9 := f8
            rw [show (((piF tc).1.length : Nat) : Int) = (X.length : Int) + f by omega] at f9
            repeat' ((conv => whnf) ; first | refine gT ?_ | refine gF ?_ | refine VIf.not ?_ | refine gA ?_ | refine gB ?_ | refine VIf.dec (fun h => ?_) (fun h => ?_) | refine gC ?_ | refine gD ?_ | refine VIf.mk (fun h => ?_) (fun h => ?_) | refine gO ?_ | refine gP ?_ | refine VNat.mk _ rfl ?_ | refine gV ?_ | refine vret_pf rfl ?_ | refine vret_take rfl rfl ?_ | refine VIdx.mk _ hy1 ?_ | refine VOk.mk (szOk_of rfl hz) ?_ | refine VPub.mk _ _ (pubV_pure rfl) ?_ | refine gK ?_)
            all_goals (try (conv => whnf))
            refine loop_over (G := Nat × Tm × PV) (fun g => [(15, iv g.1)]) (fun g => [.box 46 [iv k, iv ((0 : Nat) : Int), sv nm, iv a1, iv a2, sv a3, .sl a4 a5 a6, .sl a7 a8 a9, iv b1, iv b2, sv b3, .sl b4 b5 b6, .sl b7 b8 b9, iv ((f : Nat) : Int), .sl cb cz cx], .box 53 [iv idx, iv r1, iv r2, .sl r3 r4 r5, .sl fb fz fX], .box 25 [iv 3, iv 0, sv nm, .sl true 0 [], .sl true 0 []]] ++ [.box 71 [.sl xb xz X, .sl yb yz Y, .sl ib iz (ints co.ar)], .box 25 [iv n1, iv n2, sv n3, .sl n6 n7 n8, .sl n9 n10 n11], .box 25 g.2.2.cells]) (fun g => g.1 ≤ f ∧ TmP g.2.1 g.2.2 ∧ g.2.1 = pisT ((piF tc).1.drop g.1) (appsT self (varsL ((X.length : Int) + f) 0 f ++ co.tg))) (fun g => f - g.1) (0, tc, .ag [iv j1, iv j2, sv j3, .sl j4 j5 j6, .sl j7 j8 j9]) ⟨by omega, hT, by dsimp only; rw [List.drop_zero]; exact f9⟩ rfl rfl ?_
            rintro ⟨qq, u2, w2⟩ ⟨hq2, hu2, hue2⟩
            dsimp only at hq2 hu2 hue2 ⊢
            by_cases hlt2 : qq < f
            · obtain ⟨da, hda⟩ : ∃ da, (piF tc).1[qq]? = some da := ⟨_, List.getElem?_eq_getElem (by omega)⟩
              rw [drop_at hda, pisT] at hue2
              subst hue2
              obtain ⟨d1, d2, d3, d4, d5, d6, d7, d8, d9, d10, d11, hd, rfl, hdz, hdx, -, -, hdy, hdys, -⟩ := hu2.open
              unfold pi_ at hd
              injection hd with hd1 hd2 hd3 hd4 hd5
              subst hd1 hd2 hd3 hd4 hd5
              obtain ⟨tv, htv, htP⟩ := hdys.at (by rfl : [da, pisT (List.drop (qq + 1) (piF tc).1) (appsT self (varsL ((X.length : Int) + f) 0 f ++ co.tg))][1]? = some (pisT (List.drop (qq + 1) (piF tc).1) (appsT self (varsL ((X.length : Int) + f) 0 f ++ co.tg))))
              have htP2 := htP
              obtain ⟨t1, t2, t3, t4, t5, t6, t7, t8, t9, t10, t11, ht9, rfl, -⟩ := htP.open
              simp only [PV.cells, List.cons_append, List.nil_append]
              repeat' ((conv => whnf) ; first | refine gT ?_ | refine gF ?_ | refine VIf.not ?_ | refine gA ?_ | refine gB ?_ | refine VIf.dec (fun h => ?_) (fun h => ?_) | refine gC ?_ | refine gD ?_ | refine VIf.mk (fun h => ?_) (fun h => ?_) | refine gO ?_ | refine gP ?_ | refine VNat.mk _ rfl ?_ | refine gV ?_ | refine vret_pf rfl ?_ | refine vret_take rfl rfl ?_ | refine VIdx.mk _ htv ?_ | refine VOk.mk (szOk_of rfl hdy) ?_ | refine VPub.mk _ _ (pubV_pure rfl) ?_ | refine gK ?_)
              all_goals (try (conv => whnf))
              · exact VAgain.mk _ rfl _ (gc_same rfl) ⟨(qq + 1, pisT (List.drop (qq + 1) (piF tc).1) (appsT self (varsL ((X.length : Int) + f) 0 f ++ co.tg)), .ag [iv t1, iv t2, sv t3, .sl t6 t7 t8, .sl t9 t10 t11]), ⟨hlt2, htP2, rfl⟩, by dsimp only; omega, rfl⟩
              all_goals (exfalso; omega)
            · have hqf : qq = f := by omega
              have hse : u2 = u := by
                rw [hue2, hqf, hue, f2]
              have hsame := up2 rfl (SameTerm_can u2 w2 hu2 u _ hu)
              rw [(eqTm_eq _ _).2 hse] at hsame
              obtain ⟨d1, d2, d3, d4, d5, d6, d7, d8, d9, d10, d11, hd, rfl, -⟩ := hu2.open
              simp only [PV.cells, List.cons_append, List.nil_append]
              repeat' ((conv => whnf) ; first | refine gT ?_ | refine gF ?_ | refine VIf.not ?_ | refine gA ?_ | refine gB ?_ | refine VIf.dec (fun h => ?_) (fun h => ?_) | refine gC ?_ | refine gD ?_ | refine VIf.mk (fun h => ?_) (fun h => ?_) | refine gO ?_ | refine gP ?_ | refine VNat.mk _ rfl ?_ | refine gV ?_ | refine vret_pf rfl ?_ | refine vret_take rfl rfl ?_ | refine vcall_pf hsame rfl rfl ?_ | refine gK ?_)
              all_goals (try (conv => whnf))
              all_goals try (exfalso; omega)
              exact VAgain.mk _ rfl _ (gc_sh (.cons (sh_box rfl rfl) (.cons (sh_box rfl rfl) (.cons (sh_box rfl rfl) (.cons (sh_box rfl rfl) (.cons (sh_box rfl rfl) (.cons (sh_box rfl rfl) .nil)))))) (.cons (sh_box rfl rfl) (.cons (sh_box rfl rfl) (.cons (sh_box rfl rfl) .nil))) rfl rfl rfl rfl rfl) ⟨i + 1, by omega, by omega, rfl⟩
        | succ P =>
          simp only [ownS]
          have hl8 : ((parL (P + 1)).map encL).length = P + 1 := by simp [parL]
          have hp8 : ((parL (P + 1)).map encL ++ [PV.ag [iv 2, iv ((P + 1 : Nat) : Int), .sl true 0 []]]).all (pur 8) = true := by
            rw [← hsn]
            exact encLs_pure _ 6
          repeat' ((conv => whnf) ; first | refine gT ?_ | refine gF ?_ | refine VIf.not ?_ | refine gA ?_ | refine gB ?_ | refine VIf.dec (fun h => ?_) (fun h => ?_) | refine gC ?_ | refine gD ?_ | refine VIf.mk (fun h => ?_) (fun h => ?_) | refine gO ?_ | refine gP ?_ | refine VNat.mk _ rfl ?_ | refine gV ?_ | refine vret_pf rfl ?_ | refine vret_take rfl rfl ?_ | refine VOk.mk (grow_ok (w := 40) (r := 140737488355328) hl8 rfl rfl rfl rfl (by simp only [List.length_cons, List.length_nil]; omega) (by simp only [List.length_cons, List.length_nil]; omega)) ?_ | refine gK ?_)
          all_goals (try (conv => whnf))
          · refine VAgain.mk _ rfl _ (gc_sh (.cons (sh_box rfl rfl) (.cons (sh_box rfl rfl) (.cons (sh_box rfl rfl) (.cons (sh_row hp8) .nil)))) (.cons (sh_box rfl rfl) (.cons (sh_box rfl rfl) (.cons (sh_box rfl rfl) (.cons (sh_row hp8) .nil)))) rfl rfl rfl rfl rfl) ⟨P + 1 + 1, by omega, by omega, ?_⟩
            dsimp only [ownS]
            rw [hsn]
            rfl
          · obtain rfl : P0 = P + 1 := by omega
            refine loop_over (G := Nat) (fun i => [(7, iv i)]) (fun i => [.box 46 [iv k, iv ((P + 1 : Nat) : Int), sv nm, iv a1, iv a2, sv a3, .sl a4 a5 a6, .sl a7 a8 a9, iv b1, iv b2, sv b3, .sl b4 b5 b6, .sl b7 b8 b9, iv ((f : Nat) : Int), .sl cb cz cx], .box 53 [iv idx, iv r1, iv r2, .sl r3 r4 r5, .sl fb fz fX], .box 25 [iv 3, iv 0, sv nm, .ms 3 (P + 1), .sl true 0 []], .row (!(Nat.beq i 0)) 50 3 ((parL (P + 1)).map encL)]) (fun i => i ≤ CC.length) (fun i => CC.length - i) 0 (by omega) rfl rfl ?_
            intro i hi
            repeat' ((conv => whnf) ; first | refine gT ?_ | refine gF ?_ | refine VIf.not ?_ | refine gA ?_ | refine gB ?_ | refine VIf.dec (fun h => ?_) (fun h => ?_) | refine gC ?_ | refine gD ?_ | refine VIf.mk (fun h => ?_) (fun h => ?_) | refine gO ?_ | refine gP ?_ | refine VNat.mk _ rfl ?_ | refine gV ?_ | refine vret_pf rfl ?_ | refine vret_take rfl rfl ?_ | refine gK ?_)
            all_goals (try (conv => whnf))
            have hlt : i < CC.length := by omega
            obtain ⟨co, hco⟩ : ∃ co, CC[i]? = some co := ⟨_, List.getElem?_eq_getElem hlt⟩
            obtain ⟨c, hc⟩ : ∃ c, cs[i]? = some c := ⟨_, List.getElem?_eq_getElem (by omega)⟩
            obtain ⟨z, hz1, hz2⟩ := hfX.at hco
            obtain ⟨y, hy1, hy2⟩ := hxs.at hc
            have hcm := List.mem_of_getElem? hc
            obtain ⟨f1, f2, f3, f4, f5, f6, f7, f8⟩ := ctor_facts (hcsr c hcm).2 hix.1 (hcf i c co hc hco)
            obtain ⟨xb, xz, X, yb, yz, Y, ib, iz, rfl, hXz, hXP, hYz, hYP, hIz⟩ := hz2
            obtain ⟨sc, j1, j2, j3, j4, j5, j6, j7, j8, j9, tc, rfl, rfl, hT, -⟩ := hy2.open
            have lX := hXP.len
            have lY := hYP.len
            have lI : (ints co.ar).length = co.ar.length := by simp [ints]
            have hIz2 : iz = 1 ∨ ints co.ar = [] := hIz.imp id (fun e => by rw [e]; rfl)
            repeat' ((conv => whnf) ; first | refine gT ?_ | refine gF ?_ | refine VIf.not ?_ | refine gA ?_ | refine gB ?_ | refine VIf.dec (fun h => ?_) (fun h => ?_) | refine gC ?_ | refine gD ?_ | refine VIf.mk (fun h => ?_) (fun h => ?_) | refine gO ?_ | refine gP ?_ | refine VNat.mk _ rfl ?_ | refine gV ?_ | refine vret_pf rfl ?_ | refine vret_take rfl rfl ?_ | refine VIdx.mk _ hz1 ?_ | refine VOk.mk (szOk_of rfl hfz) ?_ | refine VPub.mk _ _ (pubV_pure rfl) ?_ | refine VPub.mk _ _ (pubV_ag (mapS_cons rfl (mapS_cons rfl (mapS_cons rfl (mapS_cons (pubV_row rfl (by simp [parL]) (encLs_pure _ 4)) (mapS_cons rfl mapS_nil)))))) ?_ | refine gK ?_)
            all_goals (try (conv => whnf))
            all_goals try (exfalso; omega)
            have hselfP : TmP self (.ag [iv 3, iv 0, sv nm, .sl false 3 ((parL (P + 1)).map encL), .sl true 0 []]) := by rw [hself]; exact self_P nm _ (by omega) hnm _ _ _ (parL_enc P).symm
            dsimp only at f1 f2 f8
            have hpl : (piF tc).1.length = X.length + f := by rw [lX, f2, List.length_drop]; omega
            have hX16 : X.length ≤ 16 := by omega
            have hY16 : Y.length ≤ 16 := by omega
            refine loop_over (G := Nat × Tm × PV) (fun g => [(11, iv g.1)]) (fun g => [.box 46 [iv k, iv ((P + 1 : Nat) : Int), sv nm, iv a1, iv a2, sv a3, .sl a4 a5 a6, .sl a7 a8 a9, iv b1, iv b2, sv b3, .sl b4 b5 b6, .sl b7 b8 b9, iv ((f : Nat) : Int), .sl cb cz cx], .box 53 [iv idx, iv r1, iv r2, .sl r3 r4 r5, .sl fb fz fX], .box 25 [iv 3, iv 0, sv nm, .ms 3 (P + 1), .sl true 0 []], .row true 50 3 ((parL (P + 1)).map encL)] ++ [.box 71 [.sl xb xz X, .sl yb yz Y, .sl ib iz (ints co.ar)], .box 25 g.2.2.cells]) (fun g => g.1 ≤ f ∧ TmP g.2.1 g.2.2 ∧ g.2.1 = appsT self (varsL ((X.length : Int) + f) 0 g.1)) (fun g => f - g.1) (0, self, .ag [iv 3, iv 0, sv nm, .sl false 3 ((parL (P + 1)).map encL), .sl true 0 []]) ⟨by omega, hselfP, rfl⟩ rfl rfl ?_
            rintro ⟨a, u, w⟩ ⟨ha, hu, hue⟩
            dsimp only at ha hu hue ⊢
            obtain ⟨e1, e2, e3, e4, e5, e6, e7, e8, e9, e10, e11, he8, rfl, -⟩ := hu.open
            simp only [PV.cells, List.cons_append, List.nil_append]
            repeat' ((conv => whnf) ; first | refine gT ?_ | refine gF ?_ | refine VIf.not ?_ | refine gA ?_ | refine gB ?_ | refine VIf.dec (fun h => ?_) (fun h => ?_) | refine gC ?_ | refine gD ?_ | refine VIf.mk (fun h => ?_) (fun h => ?_) | refine gO ?_ | refine gP ?_ | refine VNat.mk _ rfl ?_ | refine gV ?_ | refine vret_pf rfl ?_ | refine vret_take rfl rfl ?_ | refine VPub.mk _ _ (pubV_pure rfl) ?_ | refine gK ?_)
            all_goals (try (conv => whnf))
            · refine VAgain.mk _ rfl _ (gc_same rfl) ⟨(a + 1, ap u (vr ((X.length : Int) + f - 1 - a)), .ag [iv 4, iv 0, sv [], .sl true 0 [], .sl true 5 [.ag [iv e1, iv e2, sv e3, .sl e6 e7 e8, .sl e9 e10 e11], .ag [iv 1, iv ((X.length : Int) + f - 1 - a), sv [], .sl true 0 [], .sl true 0 []]]]), ⟨by dsimp only; omega, two_P hu (vr_P (by unfold i64; omega)), by dsimp only; rw [varsL_succ, appsT_snoc, hue]⟩, by dsimp only; omega, rfl⟩
            have haf : a = f := by omega
            rw [haf] at hue
            refine loop_over (G := Nat × Tm × PV) (fun g => [(12, iv g.1)]) (fun g => [.box 46 [iv k, iv ((P + 1 : Nat) : Int), sv nm, iv a1, iv a2, sv a3, .sl a4 a5 a6, .sl a7 a8 a9, iv b1, iv b2, sv b3, .sl b4 b5 b6, .sl b7 b8 b9, iv ((f : Nat) : Int), .sl cb cz cx], .box 53 [iv idx, iv r1, iv r2, .sl r3 r4 r5, .sl fb fz fX], .box 25 [iv 3, iv 0, sv nm, .ms 3 (P + 1), .sl true 0 []], .row true 50 3 ((parL (P + 1)).map encL)] ++ [.box 71 [.sl xb xz X, .sl yb yz Y, .sl ib iz (ints co.ar)], .box 25 g.2.2.cells]) (fun g => g.1 ≤ Y.length ∧ TmP g.2.1 g.2.2 ∧ g.2.1 = appsT self (varsL ((X.length : Int) + f) 0 f ++ co.tg.take g.1)) (fun g => Y.length - g.1) (0, u, .ag [iv e1, iv e2, sv e3, .sl e6 e7 e8, .sl e9 e10 e11]) ⟨by omega, hu, by simpa using hue⟩ rfl rfl ?_
            clear hu hue he8
            rintro ⟨q, u, w⟩ ⟨hq, hu, hue⟩
            dsimp only at hq hu hue ⊢
            obtain ⟨g1, g2, g3, g4, g5, g6, g7, g8, g9, g10, g11, he8, rfl, -⟩ := hu.open
            simp only [PV.cells, List.cons_append, List.nil_append]
            repeat' ((conv => whnf) ; first | refine gT ?_ | refine gF ?_ | refine VIf.not ?_ | refine gA ?_ | refine gB ?_ | refine VIf.dec (fun h => ?_) (fun h => ?_) | refine gC ?_ | refine gD ?_ | refine VIf.mk (fun h => ?_) (fun h => ?_) | refine gO ?_ | refine gP ?_ | refine VNat.mk _ rfl ?_ | refine gV ?_ | refine vret_pf rfl ?_ | refine vret_take rfl rfl ?_ | refine gK ?_)
            all_goals (try (conv => whnf))
            · obtain ⟨tg, htg⟩ : ∃ tg, co.tg[q]? = some tg := ⟨_, List.getElem?_eq_getElem (by omega)⟩
              obtain ⟨tv, htv, htP⟩ := hYP.at htg
              have ho := up2 rfl (Occurs_can tg _ htP nm)
              rw [show decide (nm ∈ ConstsF tg) = false from f6 tg (List.mem_of_getElem? htg)] at ho
              obtain ⟨m1, m2, m3, m4, m5, m6, m7, m8, m9, m10, m11, hm, rfl, -⟩ := htP.open
              repeat' ((conv => whnf) ; first | refine gT ?_ | refine gF ?_ | refine VIf.not ?_ | refine gA ?_ | refine gB ?_ | refine VIf.dec (fun h => ?_) (fun h => ?_) | refine gC ?_ | refine gD ?_ | refine VIf.mk (fun h => ?_) (fun h => ?_) | refine gO ?_ | refine gP ?_ | refine VNat.mk _ rfl ?_ | refine gV ?_ | refine vret_pf rfl ?_ | refine vret_take rfl rfl ?_ | refine VIdx.mk _ htv ?_ | refine VOk.mk (szOk_of rfl hYz) ?_ | refine vcall_pf ho rfl rfl ?_ | refine finds_pf ho (fun _ => ?_) | refine gK ?_)
              all_goals (try (conv => whnf))
              refine VAgain.mk _ rfl _ (gc_same rfl) ⟨(q + 1, ap u tg, .ag [iv 4, iv 0, sv [], .sl true 0 [], .sl true 5 [.ag [iv g1, iv g2, sv g3, .sl g6 g7 g8, .sl g9 g10 g11], .ag [iv m1, iv m2, sv m3, .sl m6 m7 m8, .sl m9 m10 m11]]]), ⟨by dsimp only; omega, two_P hu htP, by dsimp only; rw [take_snoc' htg, ← List.append_assoc, appsT_snoc, hue]⟩, by dsimp only; omega, rfl⟩
            have hqY : q = Y.length := by omega
            rw [hqY, List.take_of_length_le (by omega)] at hue
            refine loop_over (G := Nat × Tm × PV) (fun g => [(13, iv ((X.length : Int) - 1 - g.1))]) (fun g => [.box 46 [iv k, iv ((P + 1 : Nat) : Int), sv nm, iv a1, iv a2, sv a3, .sl a4 a5 a6, .sl a7 a8 a9, iv b1, iv b2, sv b3, .sl b4 b5 b6, .sl b7 b8 b9, iv ((f : Nat) : Int), .sl cb cz cx], .box 53 [iv idx, iv r1, iv r2, .sl r3 r4 r5, .sl fb fz fX], .box 25 [iv 3, iv 0, sv nm, .ms 3 (P + 1), .sl true 0 []], .row true 50 3 ((parL (P + 1)).map encL)] ++ [.box 71 [.sl xb xz X, .sl yb yz Y, .sl ib iz (ints co.ar)], .box 25 g.2.2.cells]) (fun g => g.1 ≤ X.length ∧ TmP g.2.1 g.2.2 ∧ g.2.1 = pisT (co.fs.drop (X.length - g.1)) (appsT self (varsL ((X.length : Int) + f) 0 f ++ co.tg))) (fun g => X.length - g.1) (0, u, .ag [iv g1, iv g2, sv g3, .sl g6 g7 g8, .sl g9 g10 g11]) ⟨by omega, hu, by dsimp only; rw [List.drop_of_length_le (by omega), pisT, hue]⟩ (by rw [show ((X.length : Int) - 1 - ((0 : Nat) : Int)) = X.length - 1 by omega]; rfl) rfl ?_
            clear hu hue
            rintro ⟨jj, u, w⟩ ⟨hj, hu, hue⟩
            dsimp only at hj hu hue ⊢
            obtain ⟨n1, n2, n3, n4, n5, n6, n7, n8, n9, n10, n11, hn, rfl, -⟩ := hu.open
            simp only [PV.cells, List.cons_append, List.nil_append]
            repeat' ((conv => whnf) ; first | refine gT ?_ | refine gF ?_ | refine VIf.not ?_ | refine gA ?_ | refine gB ?_ | refine VIf.dec (fun h => ?_) (fun h => ?_) | refine gC ?_ | refine gD ?_ | refine VIf.mk (fun h => ?_) (fun h => ?_) | refine gO ?_ | refine gP ?_ | refine VNat.mk _ rfl ?_ | refine gV ?_ | refine vret_pf rfl ?_ | refine vret_take rfl rfl ?_ | refine gK ?_)
            all_goals (try (conv => whnf))
            · have hjx : X.length - 1 - jj < X.length := by omega
              obtain ⟨tg, htg⟩ : ∃ tg, co.fs[X.length - 1 - jj]? = some tg := ⟨_, List.getElem?_eq_getElem (by omega)⟩
              obtain ⟨ai, hai⟩ : ∃ ai, co.ar[X.length - 1 - jj]? = some ai := ⟨_, List.getElem?_eq_getElem (by omega)⟩
              obtain ⟨tv, htv, htP⟩ := hXP.at htg
              have hai' : (ints co.ar)[X.length - 1 - jj]? = some (iv ai) := by rw [ints, List.getElem?_map, hai]; rfl
              have ho := up2 rfl (Occurs_can tg _ htP nm)
              rw [show decide (nm ∈ ConstsF tg) = decide (0 ≤ ai) from (f7 _ _ _ hai htg).symm] at ho
              obtain ⟨m1, m2, m3, m4, m5, m6, m7, m8, m9, m10, m11, hm, rfl, -⟩ := htP.open
              repeat' ((conv => whnf) ; first | refine gT ?_ | refine gF ?_ | refine VIf.not ?_ | refine gA ?_ | refine gB ?_ | refine VIf.dec (fun h => ?_) (fun h => ?_) | refine gC ?_ | refine gD ?_ | refine VIf.mk (fun h => ?_) (fun h => ?_) | refine gO ?_ | refine gP ?_ | refine VNat.mk _ rfl ?_ | refine gV ?_ | refine vret_pf rfl ?_ | refine vret_take rfl rfl ?_ | refine VNat.mk (X.length - 1 - jj) (show ((X.length : Int) - 1 - jj) = ((X.length - 1 - jj : Nat) : Int) by omega) ?_ | refine VIdx.mk _ hai' ?_ | refine VIdx.mk _ htv ?_ | refine VOk.mk (szOk_of rfl hIz2) ?_ | refine VOk.mk (szOk_of rfl hXz) ?_ | refine vcall_pf ho rfl rfl ?_ | refine finds_pf ho (fun _ => ?_) | refine VRes.mk _ sneqb ?_ | refine VIf.ff (bne_self_eq_false _) ?_ | refine gK ?_)
              all_goals (try (conv => whnf))
              · have hdr : co.fs.drop (X.length - (jj + 1)) = tg :: co.fs.drop (X.length - jj) := by
                  have := drop_at htg
                  rw [show X.length - 1 - jj + 1 = X.length - jj by omega] at this
                  rw [show X.length - (jj + 1) = X.length - 1 - jj by omega]
                  exact this
                refine VAgain.mk _ rfl _ (gc_same rfl) ⟨(jj + 1, pi_ tg u, .ag [iv 6, iv 0, sv [], .sl true 0 [], .sl true 5 [.ag [iv m1, iv m2, sv m3, .sl m6 m7 m8, .sl m9 m10 m11], .ag [iv n1, iv n2, sv n3, .sl n6 n7 n8, .sl n9 n10 n11]]]), ⟨by dsimp only; omega, two_P htP hu, by dsimp only; rw [hdr, pisT, hue]⟩, by dsimp only; omega, ?_⟩
                dsimp only
                rw [show ((X.length : Int) - 1 - ((jj + 1 : Nat) : Int)) = X.length - 1 - jj - 1 by omega]
                rfl
              · exact absurd rfl (by assumption)
            have hjX : jj = X.length := by omega
            rw [hjX, Nat.sub_self, List.drop_zero] at hue
            have f9 := f8
            rw [show (((piF tc).1.length : Nat) : Int) = (X.length : Int) + f by omega] at f9
            repeat' ((conv => whnf) ; first | refine gT ?_ | refine gF ?_ | refine VIf.not ?_ | refine gA ?_ | refine gB ?_ | refine VIf.dec (fun h => ?_) (fun h => ?_) | refine gC ?_ | refine gD ?_ | refine VIf.mk (fun h => ?_) (fun h => ?_) | refine gO ?_ | refine gP ?_ | refine VNat.mk _ rfl ?_ | refine gV ?_ | refine vret_pf rfl ?_ | refine vret_take rfl rfl ?_ | refine VIdx.mk _ hy1 ?_ | refine VOk.mk (szOk_of rfl hz) ?_ | refine VPub.mk _ _ (pubV_pure rfl) ?_ | refine gK ?_)
            all_goals (try (conv => whnf))
            refine loop_over (G := Nat × Tm × PV) (fun g => [(15, iv g.1)]) (fun g => [.box 46 [iv k, iv ((P + 1 : Nat) : Int), sv nm, iv a1, iv a2, sv a3, .sl a4 a5 a6, .sl a7 a8 a9, iv b1, iv b2, sv b3, .sl b4 b5 b6, .sl b7 b8 b9, iv ((f : Nat) : Int), .sl cb cz cx], .box 53 [iv idx, iv r1, iv r2, .sl r3 r4 r5, .sl fb fz fX], .box 25 [iv 3, iv 0, sv nm, .ms 3 (P + 1), .sl true 0 []], .row true 50 3 ((parL (P + 1)).map encL)] ++ [.box 71 [.sl xb xz X, .sl yb yz Y, .sl ib iz (ints co.ar)], .box 25 [iv n1, iv n2, sv n3, .sl n6 n7 n8, .sl n9 n10 n11], .box 25 g.2.2.cells]) (fun g => g.1 ≤ f ∧ TmP g.2.1 g.2.2 ∧ g.2.1 = pisT ((piF tc).1.drop g.1) (appsT self (varsL ((X.length : Int) + f) 0 f ++ co.tg))) (fun g => f - g.1) (0, tc, .ag [iv j1, iv j2, sv j3, .sl j4 j5 j6, .sl j7 j8 j9]) ⟨by omega, hT, by dsimp only; rw [List.drop_zero]; exact f9⟩ rfl rfl ?_
            rintro ⟨qq, u2, w2⟩ ⟨hq2, hu2, hue2⟩
            dsimp only at hq2 hu2 hue2 ⊢
            by_cases hlt2 : qq < f
            · obtain ⟨da, hda⟩ : ∃ da, (piF tc).1[qq]? = some da := ⟨_, List.getElem?_eq_getElem (by omega)⟩
              rw [drop_at hda, pisT] at hue2
              subst hue2
              obtain ⟨d1, d2, d3, d4, d5, d6, d7, d8, d9, d10, d11, hd, rfl, hdz, hdx, -, -, hdy, hdys, -⟩ := hu2.open
              unfold pi_ at hd
              injection hd with hd1 hd2 hd3 hd4 hd5
              subst hd1 hd2 hd3 hd4 hd5
              obtain ⟨tv, htv, htP⟩ := hdys.at (by rfl : [da, pisT (List.drop (qq + 1) (piF tc).1) (appsT self (varsL ((X.length : Int) + f) 0 f ++ co.tg))][1]? = some (pisT (List.drop (qq + 1) (piF tc).1) (appsT self (varsL ((X.length : Int) + f) 0 f ++ co.tg))))
              have htP2 := htP
              obtain ⟨t1, t2, t3, t4, t5, t6, t7, t8, t9, t10, t11, ht9, rfl, -⟩ := htP.open
              simp only [PV.cells, List.cons_append, List.nil_append]
              repeat' ((conv => whnf) ; first | refine gT ?_ | refine gF ?_ | refine VIf.not ?_ | refine gA ?_ | refine gB ?_ | refine VIf.dec (fun h => ?_) (fun h => ?_) | refine gC ?_ | refine gD ?_ | refine VIf.mk (fun h => ?_) (fun h => ?_) | refine gO ?_ | refine gP ?_ | refine VNat.mk _ rfl ?_ | refine gV ?_ | refine vret_pf rfl ?_ | refine vret_take rfl rfl ?_ | refine VIdx.mk _ htv ?_ | refine VOk.mk (szOk_of rfl hdy) ?_ | refine VPub.mk _ _ (pubV_pure rfl) ?_ | refine gK ?_)
              all_goals (try (conv => whnf))
              · exact VAgain.mk _ rfl _ (gc_same rfl) ⟨(qq + 1, pisT (List.drop (qq + 1) (piF tc).1) (appsT self (varsL ((X.length : Int) + f) 0 f ++ co.tg)), .ag [iv t1, iv t2, sv t3, .sl t6 t7 t8, .sl t9 t10 t11]), ⟨hlt2, htP2, rfl⟩, by dsimp only; omega, rfl⟩
              all_goals (exfalso; omega)
            · have hqf : qq = f := by omega
              have hse : u2 = u := by
                rw [hue2, hqf, hue, f2]
              have hsame := up2 rfl (SameTerm_can u2 w2 hu2 u _ hu)
              rw [(eqTm_eq _ _).2 hse] at hsame
              obtain ⟨d1, d2, d3, d4, d5, d6, d7, d8, d9, d10, d11, hd, rfl, -⟩ := hu2.open
              simp only [PV.cells, List.cons_append, List.nil_append]
              repeat' ((conv => whnf) ; first | refine gT ?_ | refine gF ?_ | refine VIf.not ?_ | refine gA ?_ | refine gB ?_ | refine VIf.dec (fun h => ?_) (fun h => ?_) | refine gC ?_ | refine gD ?_ | refine VIf.mk (fun h => ?_) (fun h => ?_) | refine gO ?_ | refine gP ?_ | refine VNat.mk _ rfl ?_ | refine gV ?_ | refine vret_pf rfl ?_ | refine vret_take rfl rfl ?_ | refine vcall_pf hsame rfl rfl ?_ | refine gK ?_)
              all_goals (try (conv => whnf))
              all_goals try (exfalso; omega)
              exact VAgain.mk _ rfl _ (gc_sh (.cons (sh_box rfl rfl) (.cons (sh_box rfl rfl) (.cons (sh_box rfl rfl) (.cons (sh_row (encLs_pure _ 6)) (.cons (sh_box rfl rfl) (.cons (sh_box rfl rfl) (.cons (sh_box rfl rfl) .nil))))))) (.cons (sh_box rfl rfl) (.cons (sh_box rfl rfl) (.cons (sh_box rfl rfl) (.cons (sh_row (encLs_pure _ 6)) .nil)))) rfl rfl rfl rfl rfl) ⟨i + 1, by omega, by omega, rfl⟩
      · exfalso
        omega
    · rw [if_neg hE] at hw
      subst hw
      obtain ⟨k, p, nm, ty, vl, fx, cs, a1, a2, a3, a4, a5, a6, a7, a8, a9, b1, b2, b3, b4, b5, b6, b7, b8, b9, cb, cz, cx, -⟩ := h
      generalize shapeE _ = e at hsh hE
      refine run_intro Tryz.func5 rfl rfl rfl ?_
      repeat' ((conv => whnf) ; first | refine gT ?_ | refine gF ?_ | refine VIf.not ?_ | refine gA ?_ | refine gB ?_ | refine VIf.dec (fun h => ?_) (fun h => ?_) | refine gC ?_ | refine gD ?_ | refine VIf.mk (fun h => ?_) (fun h => ?_) | refine gO ?_ | refine gP ?_ | refine VNat.mk _ rfl ?_ | refine gV ?_ | refine vret_pf rfl ?_ | refine vret_take rfl rfl ?_ | refine vcall_pf hal rfl rfl ?_ | refine vcall_pf hg rfl rfl ?_ | refine vcall_pf hsh rfl rfl ?_ | refine gK ?_)
      all_goals (try (conv => whnf))
      all_goals first | rfl | trace_state
end Go.Proofs.YtehhihdahalfeaaGreatDoor

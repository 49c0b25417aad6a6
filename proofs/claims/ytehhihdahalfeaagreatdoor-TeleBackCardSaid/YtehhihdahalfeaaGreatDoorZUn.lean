/-
  Layer 17 is alive. No statement of the seat.
-/
import Derived.Test.YtehhihdahalfeaaGreatDoorZUl
import Derived.Test.YtehhihdahalfeaaGreatDoorZUm
set_option linter.unusedVariables false
set_option linter.unusedSimpArgs false
set_option linter.unnecessarySimpa false
namespace Go.Proofs.YtehhihdahalfeaaGreatDoor
open Go Go.Am Go.Gw
def ApplyF (t : Tm) (us : List Tm) : Option Tm := match SplitF t 6 us.length with
  | none => none
  | some (_, body) => InstF body us
set_option maxHeartbeats 1000000 in
set_option maxRecDepth 100000 in
theorem Apply_can (t : Tm) (v : PV) (h : TmP t v) (us : List Tm) (b : Bool) (z : Nat) (xs : List PV) (hz : z = 5 ∨ xs = []) (hxs : TmsP us xs) (hbd : us.length ≤ 1000000) : Pf C1 37 [v, .sl b z xs] (putV (ApplyF t us)) := by
  have hlen := hxs.len
  have hsp := Split_can t v h 6 (xs.length : Nat)
  have hw := h.w
  have ha : ApplyF t us = match SplitF t 6 us.length with
    | none => none
    | some (_, body) => InstF body us := rfl
  rw [← hlen] at ha
  obtain ⟨k0, nn0, s0, ls0, ts0, b0, z0, xs0, c0, y0, ys0, rfl, rfl, -⟩ := h.open
  refine run_intro Tryz.func37 rfl rfl rfl ?_
  cases hs : SplitF (.mk k0 nn0 s0 ls0 ts0) 6 xs.length with
  | none =>
    rw [hs] at hsp ha
    simp only [splitV] at hsp
    repeat' ((conv => whnf) ; first | refine VIf.tt rfl ?_ | refine VIf.ff rfl ?_ | refine VIf.not ?_ | refine VIf.dtt (by assumption) ?_ | refine VIf.dff (by assumption) ?_ | refine VIf.dec (fun h => ?_) (fun h => ?_) | refine VIf.tt (by assumption) ?_ | refine VIf.ff (by assumption) ?_ | refine VIf.mk (fun h => ?_) (fun h => ?_) | refine VOk.mk rfl ?_ | refine VPur.mk rfl ?_ | refine VNat.mk _ rfl ?_ | refine VArith.fits (by unfold i64; omega) ?_ | refine vret_pf rfl ?_ | refine vret_take rfl rfl ?_ | refine vcall_pf hsp rfl rfl ?_ | refine VTch.mk _ rfl ?_)
    all_goals (try (conv => whnf))
    rw [ha]
    rfl
  | some p =>
    obtain ⟨ss, body⟩ := p
    rw [hs] at hsp ha
    simp only [splitV] at hsp
    simp only at ha
    obtain ⟨_, hssw, hbw⟩ := SplitF_w hw hs
    have hin := Inst_can body _ hbw us b z xs hz hxs (by omega)
    obtain ⟨k9, n9, s9, b9, z9, x9, c9, y9, ys9, he9⟩ := encT_open body
    obtain ⟨c8, z8, x8, he8⟩ := encTv_open ss
    rw [he8, he9] at hsp
    rw [he9] at hin
    rw [ha]
    cases hI : InstF body us with
    | none =>
      rw [hI] at hin
      simp only [putV] at hin
      repeat' ((conv => whnf) ; first | refine VIf.tt rfl ?_ | refine VIf.ff rfl ?_ | refine VIf.not ?_ | refine VIf.dtt (by assumption) ?_ | refine VIf.dff (by assumption) ?_ | refine VIf.dec (fun h => ?_) (fun h => ?_) | refine VIf.tt (by assumption) ?_ | refine VIf.ff (by assumption) ?_ | refine VIf.mk (fun h => ?_) (fun h => ?_) | refine VOk.mk rfl ?_ | refine VPur.mk rfl ?_ | refine VNat.mk _ rfl ?_ | refine VArith.fits (by unfold i64; omega) ?_ | refine vret_pf rfl ?_ | refine vret_take rfl rfl ?_ | refine vcall_pf hsp rfl rfl ?_ | refine vcall_pf hin rfl rfl ?_ | refine VTch.mk _ rfl ?_)
      all_goals (try (conv => whnf))
      rfl
    | some x =>
      rw [hI] at hin
      obtain ⟨k2, n2, s2, b2, z2, x2, c2, y2, ys2, he2⟩ := encT_open x
      simp only [putV] at hin ⊢
      rw [he2] at hin ⊢
      repeat' ((conv => whnf) ; first | refine VIf.tt rfl ?_ | refine VIf.ff rfl ?_ | refine VIf.not ?_ | refine VIf.dtt (by assumption) ?_ | refine VIf.dff (by assumption) ?_ | refine VIf.dec (fun h => ?_) (fun h => ?_) | refine VIf.tt (by assumption) ?_ | refine VIf.ff (by assumption) ?_ | refine VIf.mk (fun h => ?_) (fun h => ?_) | refine VOk.mk rfl ?_ | refine VPur.mk rfl ?_ | refine VNat.mk _ rfl ?_ | refine VArith.fits (by unfold i64; omega) ?_ | refine vret_pf rfl ?_ | refine vret_take rfl rfl ?_ | refine vcall_pf hsp rfl rfl ?_ | refine vcall_pf hin rfl rfl ?_ | refine VTch.mk _ rfl ?_)
      all_goals (try (conv => whnf))
      rfl
def tL : List (List UInt8 × Tm) := [([97], cq [110, 97, 116]), ([98], ap (cq [113]) (cq [97]))]
def tB : Tm := ap (ap (cq [114]) (cq [97])) (cq [98])
theorem open_t2 : OpenF tT 6 [[97], [98]] = some (tL, tB) := by kernel_rfl
theorem open_t3 : OpenF tT 6 [[97], [98], [99]] = none := by kernel_rfl
theorem close_t : CloseF 6 tB tL = some tT := by kernel_rfl
theorem split_t : SplitF tT 6 1 = some ([cq [110, 97, 116]], pi_ (ap (cq [113]) (vr 0)) (ap (ap (cq [114]) (vr 1)) (vr 0))) := by kernel_rfl
theorem apply_t : ApplyF tT [cq [122], cq [121]] = some (ap (ap (cq [114]) (cq [122])) (cq [121])) := by kernel_rfl
theorem count_t6 : countR 6 tT = 2 := by kernel_rfl
theorem count_t5 : countR 5 tT = 0 := by kernel_rfl
theorem tB_w : TmW tB := okTm_ok (by kernel_rfl) (by kernel_rfl)
theorem tL_w : ∀ x ∈ tL, LoW x := by
  intro x hx
  simp only [tL, List.mem_cons, List.not_mem_nil, or_false] at hx
  rcases hx with rfl | rfl
  · exact ⟨okTm_ok (by kernel_rfl) (by kernel_rfl), by simp⟩
  · exact ⟨okTm_ok (by kernel_rfl) (by kernel_rfl), by simp⟩
set_option maxHeartbeats 2000000 in
set_option maxRecDepth 100000 in
theorem alive17_can : Pf C1 8 [] [bv true] := by
  obtain ⟨v, hv, hrt⟩ := isTm_pf read_t
  obtain ⟨vz, hvz, hrz⟩ := isTm_pf read_z
  obtain ⟨vy, hvy, hry⟩ := isTm_pf read_y
  obtain ⟨vl, lb, lz, lxs, hvl, hrl, hnm, hst⟩ := names_closed
  have hop2 := Open_can tT v hv 6 [[97], [98]] true 1 (.inl rfl) (by simp) (by simp)
  have hop3 := Open_can tT v hv 6 [[97], [98], [99]] true 1 (.inl rfl) (by simp) (by simp)
  have hcl := Close_can 6 tB _ tB_w tL false 6 (tL.map encLo) (.inl rfl) (los_enc tL_w) (by simp [tL])
  have hsp := Split_can tT v hv 6 1
  have hap := Apply_can tT v hv [cq [122], cq [121]] true 5 [vz, vy] (.inl rfl) (by simp only [TmsP]; exact ⟨_, _, rfl, hvz, _, _, rfl, hvy, rfl⟩) (by simp)
  have hsm := SameTerm_can tT _ hv.w tT v hv
  have hc6 := Count_can tT v hv 6
  have hc5 := Count_can tT v hv 5
  have hco := teleConsts_can tL false 6 (tL.map encLo) (.inl rfl) (los_enc tL_w) (by simp [tL])
  have htb := isTx_pf text_b
  have htl := isTx_pf text_l
  have htr := isTx_pf text_r
  have htx := isTx_pf text_x
  rw [open_t2] at hop2
  rw [open_t3] at hop3
  rw [close_t] at hcl
  rw [split_t] at hsp
  rw [apply_t] at hap
  rw [eqTm_self] at hsm
  rw [count_t6] at hc6
  rw [count_t5] at hc5
  simp only [openV, splitV, closeV, putV] at hop2 hop3 hcl hsp hap
  obtain ⟨k0, nn0, s0, ls0, ts0, b0, z0, xs0, c0, y0, ys0, e0, rfl, -⟩ := hv.open
  obtain ⟨k1, nn1, s1, ls1, ts1, b1, z1, xs1, c1, y1, ys1, e1, rfl, -⟩ := hvz.open
  obtain ⟨k2, nn2, s2, ls2, ts2, b2, z2, xs2, c2, y2, ys2, e2, rfl, -⟩ := hvy.open
  obtain ⟨k3, nn3, s3, ls3, ts3, b3, z3, xs3, c3, y3, ys3, e3, rfl, -⟩ := hvl.open
  refine run_intro Tryz.func8 rfl rfl rfl ?_
  repeat' ((conv => whnf) ; first | refine VIf.tt rfl ?_ | refine VIf.ff rfl ?_ | refine VIf.not ?_ | refine VIf.dtt (by assumption) ?_ | refine VIf.dff (by assumption) ?_ | refine VIf.dec (fun h => ?_) (fun h => ?_) | refine VIf.tt (by assumption) ?_ | refine VIf.ff (by assumption) ?_ | refine VIf.mk (fun h => ?_) (fun h => ?_) | refine VOk.mk rfl ?_ | refine VPur.mk rfl ?_ | refine VNat.mk _ rfl ?_ | refine VArith.fits (by unfold i64; omega) ?_ | refine vret_pf rfl ?_ | refine vret_take rfl rfl ?_ | refine vcall_pf hrt rfl rfl ?_ | refine vcall_pf hop2 rfl rfl ?_ | refine vcall_pf hop3 rfl rfl ?_ | refine vcall_pf hcl rfl rfl ?_ | refine vcall_pf hsp rfl rfl ?_ | refine vcall_pf hrz rfl rfl ?_ | refine vcall_pf hry rfl rfl ?_ | refine vcall_pf hap rfl rfl ?_ | refine vcall_pf hsm rfl rfl ?_ | refine vcall_pf htb rfl rfl ?_ | refine vcall_pf htl rfl rfl ?_ | refine vcall_pf htr rfl rfl ?_ | refine vcall_pf htx rfl rfl ?_ | refine vcall_pf hc6 rfl rfl ?_ | refine vcall_pf hc5 rfl rfl ?_ | refine vcall_pf hco rfl rfl ?_ | refine vcall_pf hrl rfl rfl ?_ | refine vcall_pf hnm rfl rfl ?_ | refine vcall_pf hst rfl rfl ?_ | refine finds_pf hrt (fun _ => ?_) | refine finds_pf hop2 (fun _ => ?_) | refine finds_pf hop3 (fun _ => ?_) | refine finds_pf hcl (fun _ => ?_) | refine finds_pf hsp (fun _ => ?_) | refine finds_pf hrz (fun _ => ?_) | refine finds_pf hry (fun _ => ?_) | refine finds_pf hap (fun _ => ?_) | refine finds_pf hsm (fun _ => ?_) | refine finds_pf htb (fun _ => ?_) | refine finds_pf htl (fun _ => ?_) | refine finds_pf htr (fun _ => ?_) | refine finds_pf htx (fun _ => ?_) | refine finds_pf hc6 (fun _ => ?_) | refine finds_pf hc5 (fun _ => ?_) | refine finds_pf hco (fun _ => ?_) | refine finds_pf hrl (fun _ => ?_) | refine finds_pf hnm (fun _ => ?_) | refine finds_pf hst (fun _ => ?_) | refine vres_str ?_ | refine VIdx.mk _ rfl ?_ | refine VTch.mk _ rfl ?_)
  all_goals (try (conv => whnf))
  rfl
theorem TeleBack_pf (t : Tm) (v : PV) (h : TmP t v) (kind n : Int) : Pf C1 3 [v, iv kind, iv n] [bv true] := TeleBack_can alive17_can t v h kind n
end Go.Proofs.YtehhihdahalfeaaGreatDoor

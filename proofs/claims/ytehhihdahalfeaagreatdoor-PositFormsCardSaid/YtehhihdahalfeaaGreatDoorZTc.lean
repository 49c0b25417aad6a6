/-
  What the references find of names, levels and terms. No statement of the seat.
-/
import Derived.Test.YtehhihdahalfeaaGreatDoorZTb
set_option linter.unusedVariables false
set_option linter.unusedSimpArgs false
set_option linter.unnecessarySimpa false
namespace Go.Proofs.YtehhihdahalfeaaGreatDoor
open Go Go.Am Go.Gw
/-- a comparison of two bytes -/
def u8Op2 (op : BinOp) (a b : Int) (K : PV → Prop) : Prop := match op with
  | .lss => K (bv (decide (a < b)))
  | .gtr => K (bv (decide (b < a)))
  | .leq => K (bv (decide (a ≤ b)))
  | .geq => K (bv (decide (b ≤ a)))
  | .eql => K (bv (a == b))
  | _ => False
/- names, byte by byte -/
def letC (c : UInt8) : Bool := decide (97 ≤ c.toNat ∧ c.toNat ≤ 122 ∨ c.toNat = 95)
def digC (c : UInt8) : Bool := decide (48 ≤ c.toNat ∧ c.toNat ≤ 57)
def rnF : List UInt8 → Bool → Bool
  | [], first => !first
  | c :: r, first => if c.toNat = 46 then (if first then false else rnF r true) else if (letC c || (digC c && !first)) = true then rnF r false else false
/- nodes -/
mutual
def sizT : Tm → Nat
  | .mk _ _ _ ls ts => 1 + sizeLs ls + sizTs ts
def sizTs : List Tm → Nat
  | [] => 0
  | t :: r => sizT t + sizTs r
end
theorem lnFs_eq (q : Int) (h : 0 ≤ q) : ∀ (ls : List Lv) (acc : Int), 0 ≤ acc → (acc + sizeLs ls ≤ q → lnFs ls acc q = acc + sizeLs ls) ∧ (q < acc + sizeLs ls → q < lnFs ls acc q)
  | [], acc, h0 => by simp [lnFs, sizeLs]
  | l :: r, acc, h0 => by
    have h1 := lnF_eq l q h
    have h2 := nodes_sizeL l
    rw [lnFs, sizeLs]
    by_cases hq : acc ≤ q
    · rw [if_pos hq]
      have ih := lnFs_eq q h r (acc + lnF l q) (by omega)
      constructor
      · intro h3
        rw [ih.1 (by omega)]
        omega
      · intro h3
        by_cases h4 : (sizeL l : Int) ≤ q + 1
        · exact ih.2 (by omega)
        · have := lnFs_bd q h r (acc + lnF l q)
          omega
    · rw [if_neg hq]
      omega
mutual
theorem refN_eq : ∀ (t : Tm) (q : Int), 0 ≤ q → refN t q = min (sizT t : Int) (q + 1)
  | .mk _ _ s ls ts, q, h => by
    rw [refN, sizT]
    have h1 := lnFs_eq q h ls 1 (by omega)
    have h2 := lnFs_bd q h ls 1
    by_cases h3 : 1 + (sizeLs ls : Int) ≤ q
    · have h4 := refNs_eq ts (lnFs ls 1 q) q h (by omega)
      rw [h1.1 h3] at h4 ⊢
      by_cases h5 : 1 + (sizeLs ls : Int) + sizTs ts ≤ q
      · rw [h4.1 h5]; omega
      · have := h4.2 (by omega); omega
    · have h4 := h1.2 (by omega)
      have := refNs_bd ts (lnFs ls 1 q) q h
      omega
theorem refNs_eq : ∀ (ts : List Tm) (acc q : Int), 0 ≤ q → 0 ≤ acc → (acc + sizTs ts ≤ q → refNs ts acc q = acc + sizTs ts) ∧ (q < acc + sizTs ts → q < refNs ts acc q)
  | [], acc, q, h, h0 => by simp [refNs, sizTs]
  | t :: r, acc, q, h, h0 => by
    have h1 := refN_eq t q h
    have h2 : 1 ≤ refN t q := (refN_bd t q h).1
    rw [refNs, sizTs]
    by_cases hq : acc ≤ q
    · rw [if_pos hq]
      have ih := refNs_eq r (acc + refN t q) q h (by omega)
      constructor
      · intro h3
        rw [ih.1 (by omega)]
        omega
      · intro h3
        by_cases h4 : (sizT t : Int) ≤ q + 1
        · exact ih.2 (by omega)
        · have := refNs_bd r (acc + refN t q) q h
          omega
    · rw [if_neg hq]
      omega
end
mutual
theorem cntT_eq : ∀ (t : Tm) (left : Int), 0 ≤ left → ((sizT t : Int) ≤ left → cntT t left = left - sizT t) ∧ (left < (sizT t : Int) → cntT t left = -1)
  | .mk _ _ s ls ts, left, h => by
    rw [cntT, sizT]
    have h1 := countFs_eq ls (left - 1) (by omega)
    have hg := countFs_ge ls (left - 1) (by omega)
    by_cases h3 : (sizeLs ls : Int) ≤ left - 1
    · rw [h1.1 h3]
      have h4 := cntTs_eq ts (left - 1 - sizeLs ls) (by omega)
      constructor
      · intro h5
        rw [h4.1 (by omega)]
        omega
      · intro h5
        by_cases hts : ts = []
        · subst hts
          simp only [sizTs] at h5
          omega
        · exact h4.2 (by omega) hts
    · by_cases h6 : left = 0
      · subst h6
        rw [countFs_neg _ _ (by omega), cntTs_neg _ _ (by omega)]
        constructor
        · intro; omega
        · intro; rfl
      · have h2 : ls ≠ [] := by
          rintro rfl
          simp only [sizeLs] at h3
          omega
        rw [h1.2 (by omega) h2, cntTs_neg _ _ (by omega)]
        constructor
        · intro; omega
        · intro; rfl
theorem cntTs_eq : ∀ (ts : List Tm) (left : Int), -1 ≤ left → ((sizTs ts : Int) ≤ left → cntTs ts left = left - sizTs ts) ∧ (left < (sizTs ts : Int) → ts ≠ [] → cntTs ts left = -1)
  | [], left, h => by simp [cntTs, sizTs]
  | t :: r, left, h => by
    rw [cntTs, sizTs]
    by_cases h0 : left < 0
    · rw [if_pos h0]
      have : 1 ≤ sizT t := by cases t; simp [sizT]; omega
      constructor
      · intro; omega
      · intro; omega
    · rw [if_neg h0]
      have h1 := cntT_eq t left (by omega)
      by_cases h2 : (sizT t : Int) ≤ left
      · rw [h1.1 h2]
        have ih := cntTs_eq r (left - sizT t) (by omega)
        constructor
        · intro h3
          rw [ih.1 (by omega)]
          omega
        · intro h3 _
          by_cases hr : r = []
          · subst hr
            simp only [sizTs] at h3
            omega
          · exact ih.2 (by omega) hr
      · rw [h1.2 (by omega), cntTs_neg _ _ (by omega)]
        constructor
        · intro; omega
        · intro; simp
end
theorem nodesT_eq (t : Tm) : nodesT t = min (sizT t : Int) 2001 := by
  have := cntT_eq t 2000 (by omega)
  unfold nodesT
  by_cases h : (sizT t : Int) ≤ 2000
  · rw [this.1 h]; omega
  · rw [this.2 (by omega)]; omega
def anyT (t : Tm) : Bool := rightT t 4 1125899906842624
end Go.Proofs.YtehhihdahalfeaaGreatDoor

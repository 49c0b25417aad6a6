/-
  Plain functions of package term: counting, being right, the spine. No program in sight.
-/
import Derived.Test.YtodfpilpdkdapaaGreatDoorTm
namespace Go.Gw
open Go

def Tm.kind : Tm → Int | .mk k _ _ _ _ => k
def Tm.num : Tm → Int | .mk _ n _ _ _ => n
def Tm.name : Tm → List UInt8 | .mk _ _ s _ _ => s
def Tm.levels : Tm → List Lv | .mk _ _ _ ls _ => ls
def Tm.args : Tm → List Tm | .mk _ _ _ _ ts => ts
def Tm.zero : Tm := .mk 0 0 [] [] []

mutual
def cntT : Tm → Int → Int
  | .mk _ _ _ ls ts, left => cntTs ts (countFs ls (left - 1))
def cntTs : List Tm → Int → Int
  | [], left => left
  | t :: r, left => if left < 0 then left else cntTs r (cntT t left)
end
def nodesT (t : Tm) : Int := 2000 - max (cntT t 2000) (-1)

mutual
theorem cntT_ge : ∀ (t : Tm) (left : Int), 0 ≤ left → -1 ≤ cntT t left ∧ cntT t left ≤ left
  | .mk _ _ _ ls ts, left, h => by
    simp only [cntT]
    have h1 := countFs_ge ls (left - 1) (by omega)
    have h2 := cntTs_ge ts (countFs ls (left - 1)) h1.1
    omega
theorem cntTs_ge : ∀ (ts : List Tm) (left : Int), -1 ≤ left → -1 ≤ cntTs ts left ∧ cntTs ts left ≤ left
  | [], left, h => by simp only [cntTs]; omega
  | t :: r, left, h => by
    simp only [cntTs]
    split
    · omega
    · have h1 := cntT_ge t left (by omega)
      have h2 := cntTs_ge r (cntT t left) (by omega)
      omega
end
theorem cntTs_neg (ts : List Tm) (left : Int) (h : left < 0) : cntTs ts left = left := by
  cases ts <;> simp [cntTs, h]

/-- how many arguments, how many levels, in which argument there is a binder more -/
def shArgs (k : Int) : Int := if k = 4 ∨ k = 5 ∨ k = 6 then 2 else if k = 7 then 3 else 0
def shLevels (k : Int) : Int := if k = 2 then 1 else 0
def shBinds (k : Int) : Int := if k = 0 then 0 else if k = 5 ∨ k = 6 then 1 else if k = 7 then 2 else -1
def innerF (binds at_ deep : Int) : Int := if at_ = binds then deep + 1 else deep

/- names -/
def plainC (c : UInt8) : Bool := (97 ≤ c && c ≤ 122) || (48 ≤ c && c ≤ 57) || c == 95
def partF (s : List UInt8) : Bool := match s with
  | [] => false
  | c :: r => !(48 ≤ c && c ≤ 57) && (c :: r).all plainC
/-- the parts of a name: what stands between dots -/
def splitDot : List UInt8 → List UInt8 → List (List UInt8)
  | acc, [] => [acc.reverse]
  | acc, c :: r => if c == 46 then acc.reverse :: splitDot [] r else splitDot (c :: acc) r
def partsF (s : List UInt8) : List (List UInt8) := splitDot [] s
def nameF (s : List UInt8) : Bool := decide (s.length ≤ 40) && (partsF s).all partF

def nodeT : Tm → Int → Bool
  | .mk k n s ls _, kk => if k = 1 then decide (0 ≤ n) && (decide (n < kk) && (s == [] && decide (ls.length = 0))) else if k = 3 then decide (n = 0) && (nameF s && decide (ls.length ≤ 4)) else decide (n = 0) && (s == [] && decide ((ls.length : Int) = shLevels k))
def rightLs : List Lv → Int → Bool
  | [], _ => true
  | l :: r, p => rightF l p && rightLs r p
mutual
def allT : Tm → Int → Int → Bool
  | .mk k n s ls ts, p, kk => (decide (1 ≤ k) && decide (k ≤ 7)) && (decide ((ts.length : Int) = shArgs k) && (nodeT (.mk k n s ls ts) kk && (rightLs ls p && allTs ts k 0 p kk)))
def allTs : List Tm → Int → Int → Int → Int → Bool
  | [], _, _, _, _ => true
  | t :: r, k, i, p, kk => allT t p (innerF (shBinds k) i kk) && allTs r k (i + 1) p kk
end
def rightT (t : Tm) (p kk : Int) : Bool := decide (0 ≤ p) && (decide (p ≤ 4) && (decide (0 ≤ kk) && (decide (nodesT t ≤ 2000) && allT t p (min kk 1125899906842624))))

/- how deep a term is -/
mutual
def depT : Tm → Nat
  | .mk _ _ _ _ ts => depTs ts + 1
def depTs : List Tm → Nat
  | [] => 0
  | t :: r => max (depT t) (depTs r)
end
theorem depTs_mem : ∀ {ts : List Tm} {t : Tm}, t ∈ ts → depT t ≤ depTs ts
  | x :: r, t, h => by
    rw [depTs]
    rcases List.mem_cons.1 h with rfl | h
    · omega
    · have := depTs_mem h
      omega
mutual
theorem cntT_dep : ∀ (t : Tm) (left : Int), 0 ≤ left → 0 ≤ cntT t left → (depT t : Int) ≤ left
  | .mk _ _ _ ls ts, left, h, hc => by
    simp only [cntT] at hc
    rw [depT]
    have h1 := countFs_ge ls (left - 1) (by omega)
    have h2 := cntTs_dep ts (countFs ls (left - 1)) h1.1 hc
    omega
theorem cntTs_dep : ∀ (ts : List Tm) (left : Int), -1 ≤ left → 0 ≤ cntTs ts left → (depTs ts : Int) ≤ left
  | [], left, h, hc => by simp only [cntTs] at hc; simp [depTs, hc]
  | t :: r, left, h, hc => by
    simp only [cntTs] at hc
    split at hc
    · omega
    · rename_i h0
      have h1 := cntT_ge t left (by omega)
      have h2 := cntTs_dep r (cntT t left) (by omega) hc
      have h3 : 0 ≤ cntT t left := by
        by_cases h4 : cntT t left < 0
        · rw [cntTs_neg r _ h4] at hc
          omega
        · omega
      have h4 := cntT_dep t left (by omega) h3
      rw [depTs]
      omega
end
theorem nodes_dep {t : Tm} (h : nodesT t ≤ 2000) : depT t ≤ 2000 := by
  unfold nodesT at h
  have := cntT_dep t 2000 (by omega) (by omega)
  omega

/-- the head, and what it is applied to -/
def spineF : Tm → List Tm → Tm × List Tm
  | .mk 4 n s ls [f, x], acc => spineF f (x :: acc)
  | t, acc => (t, acc)

end Go.Gw

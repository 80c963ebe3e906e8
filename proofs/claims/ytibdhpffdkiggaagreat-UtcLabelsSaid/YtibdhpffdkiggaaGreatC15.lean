/- rubber.times, plus, less, count, begin, cut, within, form (printed by my walk.py) -/
import Derived.Test.YtibdhpffdkiggaaGreatL4
import Derived.Test.YtibdhpffdkiggaaGreatC14
import Derived.Test.YtibdhpffdkiggaaGreatP14
import Derived.Test.YtibdhpffdkiggaaGreatM1
import Derived.IntWalk
namespace Go.Proofs.YtibdhpffdkiggaaGreat
open Go.RowKit
set_option linter.unusedVariables false
set_option linter.unusedSimpArgs false
attribute [local go_sem] vN bT bF vW vM vL vT2 vT3 vP vI execOp Act.eval evC hi_zero lo_zero

/-- a number of 64 bits -/
def In64 (n : Int) : Prop := -9223372036854775808 ≤ n ∧ n < 9223372036854775808
theorem mul_abs {a b A B : Int} (a0 : -A ≤ a) (a1 : a ≤ A) (b0 : -B ≤ b) (b1 : b ≤ B) (hB : 0 ≤ B) : -(A * B) ≤ a * b ∧ a * b ≤ A * B := by
  have hA : 0 ≤ A := by omega
  have h1 : 0 ≤ (A - a) * (B + b) := Int.mul_nonneg (by omega) (by omega)
  have h2 : 0 ≤ (A + a) * (B - b) := Int.mul_nonneg (by omega) (by omega)
  have h3 : 0 ≤ (A - a) * (B - b) := Int.mul_nonneg (by omega) (by omega)
  have h4 : 0 ≤ (A + a) * (B + b) := Int.mul_nonneg (by omega) (by omega)
  rw [Int.sub_mul, Int.mul_add, Int.mul_add] at h1
  rw [Int.add_mul, Int.mul_sub, Int.mul_sub] at h2
  rw [Int.sub_mul, Int.mul_sub, Int.mul_sub] at h3
  rw [Int.add_mul, Int.mul_add, Int.mul_add] at h4
  constructor <;> omega
theorem mul_64 {a b : Int} (ha : In64 a) (hb : In64 b) : InW (a * b) := by
  have := mul_abs (a := a) (b := b) (A := 9223372036854775808) (B := 9223372036854775808) ha.1 (Int.le_of_lt ha.2) hb.1 (Int.le_of_lt hb.2) (by omega)
  unfold InW; omega
/-- numbers that are far from too great -/
def Bnd (z : Int) : Prop := -1000000000000000000000000000000000000 ≤ z ∧ z ≤ 1000000000000000000000000000000000000
theorem Bnd.w {z : Int} (h : Bnd z) : InW z := by unfold Bnd at h; unfold InW; omega

def wthn (n l u : Int) : Bool := decide (l ≤ n) && decide (n ≤ u)
def formB (s x : Int) : Bool := wthn s 0 86400 && wthn x 0 999999999999999999
end Go.Proofs.YtibdhpffdkiggaaGreat

/- Plain laws of layer 14 (rates ahead of leap seconds): no program here. -/
import Derived.Lib.Hide
namespace Go.Proofs.Ytdfkghpgekmmlaa
set_option linter.unusedVariables false
set_option linter.unusedSimpArgs false

/-! ### floors -/
theorem fdiv_le {a b c : Int} (h : 0 < c) : a / c ≤ b ↔ a < (b + 1) * c := by
  have := Int.ediv_lt_iff_lt_mul (a := a) (b := b + 1) h
  omega
/-- the greatest v with v * L < N -/
def topq (N L : Int) : Int := if N % L = 0 then N / L - 1 else N / L
theorem topq_spec {N L : Int} (h : 0 < L) (v : Int) : v * L < N ↔ v ≤ topq N L := by
  have e := Int.mul_ediv_add_emod N L
  have m0 := Int.emod_nonneg N (Int.ne_of_gt h)
  have m1 := Int.emod_lt_of_pos N h
  unfold topq
  constructor
  · intro hv
    split
    · rename_i hz
      rcases Int.lt_or_le (N / L - 1) v with hc | hc
      · exfalso
        have : N / L * L ≤ v * L := Int.mul_le_mul_of_nonneg_right (by omega) (by omega)
        have : L * (N / L) = N / L * L := Int.mul_comm _ _
        omega
      · exact hc
    · rcases Int.lt_or_le (N / L) v with hc | hc
      · exfalso
        have h1 : (N / L + 1) * L ≤ v * L := Int.mul_le_mul_of_nonneg_right (by omega) (by omega)
        rw [Int.add_mul] at h1
        have : L * (N / L) = N / L * L := Int.mul_comm _ _
        omega
      · exact hc
  · intro hv
    split at hv
    · rename_i hz
      have h1 : v * L ≤ (N / L - 1) * L := Int.mul_le_mul_of_nonneg_right hv (by omega)
      rw [Int.sub_mul] at h1
      have : L * (N / L) = N / L * L := Int.mul_comm _ _
      omega
    · have h1 : v * L ≤ N / L * L := Int.mul_le_mul_of_nonneg_right hv (by omega)
      have : L * (N / L) = N / L * L := Int.mul_comm _ _
      omega

/-- the attoseconds of a label -/
def jn (d s a : Int) : Int := (d * 86400 + s) * 1000000000000000000 + a
/-- of a day -/
def dayA : Int := 86400000000000000000000
/-- the instant of a count, by a rate (b: base, f: from, r: rate, in attoseconds) -/
def fA (b f r u : Int) : Int := u + b + (u - f) * r / dayA
/-- the greatest count whose instant is not behind t -/
def gA (b f r t : Int) : Int := topq ((t - b - f + 1) * dayA) (dayA + r) + f
theorem gA_spec {b f r : Int} (hr : 0 ≤ r) (t u : Int) : fA b f r u ≤ t ↔ u ≤ gA b f r t := by
  have h := topq_spec (N := (t - b - f + 1) * dayA) (L := dayA + r) (by unfold dayA; omega) (u - f)
  unfold gA
  have e : fA b f r u ≤ t ↔ (u - f) * r / dayA ≤ t - b - u := by unfold fA; omega
  rw [e, fdiv_le (by unfold dayA; omega)]
  have e2 : (u - f) * r < (t - b - u + 1) * dayA ↔ (u - f) * (dayA + r) < (t - b - f + 1) * dayA := by
    rw [Int.mul_add]
    have : (t - b - f + 1) * dayA = (t - b - u + 1) * dayA + (u - f) * dayA := by rw [← Int.add_mul]; congr 1; omega
    omega
  rw [e2, h]; omega
theorem fA_mono {b f r : Int} (hr : 0 ≤ r) {u v : Int} (h : u < v) : fA b f r u < fA b f r v := by
  have h1 : (u - f) * r ≤ (v - f) * r := Int.mul_le_mul_of_nonneg_right (by omega) hr
  have h2 : (u - f) * r / dayA ≤ (v - f) * r / dayA := Int.ediv_le_ediv (by unfold dayA; omega) h1
  unfold fA; omega
theorem fA_le {b f r : Int} (hr : 0 ≤ r) {u v : Int} : fA b f r u ≤ fA b f r v ↔ u ≤ v := by
  constructor
  · intro h; rcases Int.lt_or_le v u with hc | hc
    · have := fA_mono (b := b) (f := f) hr hc; omega
    · exact hc
  · intro h; rcases Int.lt_or_eq_of_le h with hc | hc
    · exact Int.le_of_lt (fA_mono hr hc)
    · rw [hc]; exact Int.le_refl _
theorem gA_fA {b f r : Int} (hr : 0 ≤ r) (u : Int) : gA b f r (fA b f r u) = u := by
  have h1 := (gA_spec (b := b) (f := f) hr (fA b f r u) u).1 (Int.le_refl _)
  have h2 := (gA_spec (b := b) (f := f) hr (fA b f r u) (gA b f r (fA b f r u))).2 (Int.le_refl _)
  have := (fA_le (b := b) (f := f) hr).1 h2
  omega
/-- where the rate is below one day a day, an instant is that of its count, or one attosecond behind it -/
theorem fA_gA {b f r : Int} (hr : 0 ≤ r) (hr1 : r ≤ dayA) (t : Int) : fA b f r (gA b f r t) = t ∨ fA b f r (gA b f r t) = t - 1 := by
  have h1 := (gA_spec (b := b) (f := f) hr t (gA b f r t)).2 (Int.le_refl _)
  have h2 : t < fA b f r (gA b f r t + 1) := by
    rcases Int.lt_or_le t (fA b f r (gA b f r t + 1)) with hc | hc
    · exact hc
    · have := (gA_spec (b := b) (f := f) hr t _).1 hc; omega
  have h3 : fA b f r (gA b f r t + 1) ≤ fA b f r (gA b f r t) + 2 := by
    unfold fA
    have : (gA b f r t + 1 - f) * r / dayA ≤ (gA b f r t - f) * r / dayA + 1 := by
      rw [fdiv_le (by unfold dayA; omega)]
      have e := Int.mul_ediv_add_emod ((gA b f r t - f) * r) dayA
      have m1 := Int.emod_lt_of_pos ((gA b f r t - f) * r) (show 0 < dayA by unfold dayA; omega)
      have : (gA b f r t + 1 - f) * r = (gA b f r t - f) * r + r := by rw [show gA b f r t + 1 - f = (gA b f r t - f) + 1 by omega, Int.add_mul]; omega
      rw [this, Int.add_mul, Int.add_mul, Int.mul_comm ((gA b f r t - f) * r / dayA) dayA]; omega
    omega
  omega
end Go.Proofs.Ytdfkghpgekmmlaa

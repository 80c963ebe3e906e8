/- The plain law of Knuth's division: two steps of one word each. No program here. -/
import Derived.Test.YtdfkghpgekmmlaaB
namespace Go.Proofs.Ytdfkghpgekmmlaa
set_option linter.unusedVariables false

/-- what a step of the division knows: Y of two words y1, y0, U less than Y, one word u more -/
structure KS (U u Y y1 y0 : Int) : Prop where
  hY : Y = y1 * 4294967296 + y0
  y10 : 2147483648 ≤ y1
  y11 : y1 < 4294967296
  y00 : 0 ≤ y0
  y01 : y0 < 4294967296
  U0 : 0 ≤ U
  U1 : U < Y
  u0 : 0 ≤ u
  u1 : u < 4294967296
namespace KS
variable {U u Y y1 y0 q r : Int}
theorem Ypos (h : KS U u Y y1 y0) : 0 < Y := by have := h.hY; have := h.y10; have := h.y00; omega
theorem mulY (h : KS U u Y y1 y0) (hq : q * y1 + r = U) : q * Y = (U - r) * 4294967296 + q * y0 := by
  rw [h.hY, Int.mul_add, ← hq, Int.add_sub_cancel, ← Int.mul_assoc]
theorem exit1 (h : KS U u Y y1 y0) (hq : q * y1 + r = U) (hle : q * y0 ≤ 4294967296 * r + u) (hQ : (U * 4294967296 + u) / Y ≤ q) : q = (U * 4294967296 + u) / Y := by
  have h1 := h.mulY hq
  have : q ≤ (U * 4294967296 + u) / Y := Int.le_ediv_of_mul_le h.Ypos (by rw [h1, Int.sub_mul]; omega)
  omega
theorem step1 (h : KS U u Y y1 y0) (hB : 4294967296 ≤ q) : (U * 4294967296 + u) / Y ≤ q - 1 := by
  have := h.u1
  have := h.U1
  have : (U * 4294967296 + u) / Y < 4294967296 := Int.ediv_lt_of_lt_mul h.Ypos (by omega)
  omega
theorem step2 (h : KS U u Y y1 y0) (hq : q * y1 + r = U) (hgt : 4294967296 * r + u < q * y0) : (U * 4294967296 + u) / Y ≤ q - 1 := by
  have h1 := h.mulY hq
  have : (U * 4294967296 + u) / Y < q := Int.ediv_lt_of_lt_mul h.Ypos (by rw [h1, Int.sub_mul]; omega)
  omega
theorem exit2 (h : KS U u Y y1 y0) (hq : q * y1 + r = U) (hr : 4294967296 ≤ r) (hB : q ≤ 4294967296) (hQ : (U * 4294967296 + u) / Y ≤ q) : q = (U * 4294967296 + u) / Y := by
  have h0 : q * y0 ≤ 4294967296 * y0 := Int.mul_le_mul_of_nonneg_right hB h.y00
  have := h.y01; have := h.u0
  exact h.exit1 hq (by omega) hQ
theorem first (h : KS U u Y y1 y0) : (U * 4294967296 + u) / Y ≤ U / y1 ∧ U / y1 ≤ 4294967297 ∧ 0 ≤ U / y1 ∧ U / y1 * y1 + U % y1 = U ∧ 0 ≤ U % y1 ∧ U % y1 < y1 := by
  have p1 : 0 < y1 := by have := h.y10; omega
  have hm : U / y1 * y1 + U % y1 = U := by rw [Int.mul_comm]; exact Int.mul_ediv_add_emod U y1
  refine ⟨?_, ?_, Int.ediv_nonneg h.U0 (by omega), hm, Int.emod_nonneg _ (by omega), Int.emod_lt_of_pos _ p1⟩
  · apply Int.le_ediv_of_mul_le p1
    have h1 : (U * 4294967296 + u) / Y * Y ≤ U * 4294967296 + u := Int.ediv_mul_le _ (by have := h.Ypos; omega)
    have hQ0 : 0 ≤ (U * 4294967296 + u) / Y := Int.ediv_nonneg (by have := h.U0; have := h.u0; omega) (by have := h.Ypos; omega)
    generalize (U * 4294967296 + u) / Y = Q at *
    have h2 : Q * Y = Q * y1 * 4294967296 + Q * y0 := by rw [h.hY, Int.mul_add, ← Int.mul_assoc]
    have h3 : 0 ≤ Q * y0 := Int.mul_nonneg hQ0 h.y00
    have := h.u1
    omega
  · have : U / y1 < 4294967298 := by
      apply Int.ediv_lt_of_lt_mul p1
      have := h.U1; have := h.hY; have := h.y01; have := h.y10
      omega
    omega
theorem nonneg (h : KS U u Y y1 y0) : 0 ≤ (U * 4294967296 + u) / Y ∧ (U * 4294967296 + u) / Y < 4294967296 := by
  have := h.u1; have := h.U1; have := h.u0; have := h.U0
  exact ⟨Int.ediv_nonneg (by omega) (by have := h.Ypos; omega), Int.ediv_lt_of_lt_mul h.Ypos (by omega)⟩
theorem rest (h : KS U u Y y1 y0) : 0 ≤ U * 4294967296 + u - (U * 4294967296 + u) / Y * Y ∧ U * 4294967296 + u - (U * 4294967296 + u) / Y * Y < Y := by
  have h1 := Int.mul_ediv_add_emod (U * 4294967296 + u) Y
  have h2 := Int.emod_nonneg (U * 4294967296 + u) (show Y ≠ 0 by have := h.Ypos; omega)
  have h3 := Int.emod_lt_of_pos (U * 4294967296 + u) h.Ypos
  rw [Int.mul_comm] at h1
  omega
/-- both steps -/
theorem two (h : KS U u Y y1 y0) {u' : Int} (u0' : 0 ≤ u') (u1' : u' < 4294967296) : ∃ h2 : KS (U * 4294967296 + u - (U * 4294967296 + u) / Y * Y) u' Y y1 y0, True :=
  ⟨⟨h.hY, h.y10, h.y11, h.y00, h.y01, h.rest.1, h.rest.2, u0', u1'⟩, trivial⟩
end KS
/-- the loop's relation: q is not less than what is sought -/
def KI (U u Y y1 q r : Int) : Prop := q * y1 + r = U ∧ 0 ≤ r ∧ r < 4294967296 ∧ (U * 4294967296 + u) / Y ≤ q ∧ 0 ≤ q ∧ q ≤ 4294967297

/-- a number and its divisor moved s places to the left -/
theorem shifted {h l y K M : Int} (hK : 1 ≤ K) (hKM : K * M = 18446744073709551616) (h0 : 0 ≤ h) (hy : h < y) (l0 : 0 ≤ l) (l1 : l < 18446744073709551616) :
    0 ≤ h * K + l / M ∧ h * K + l / M < y * K ∧ (h * 18446744073709551616 + l) * K = (h * K + l / M) * 18446744073709551616 + l % M * K ∧ 0 ≤ l % M * K ∧ l % M * K < 18446744073709551616 ∧ l * K % 18446744073709551616 = l % M * K ∧ 0 ≤ l / M ∧ l / M < K := by
  have hM : 0 < M := by
    rcases Int.lt_or_le 0 M with h | h
    · exact h
    · have : K * M ≤ 0 := Int.mul_nonpos_of_nonneg_of_nonpos (by omega) h
      omega
  have a1 : 0 ≤ l / M := Int.ediv_nonneg l0 (by omega)
  have a2 : l / M < K := Int.ediv_lt_of_lt_mul hM (by omega)
  have a3 : 0 ≤ h * K := Int.mul_nonneg h0 (by omega)
  have a4 : (h + 1) * K ≤ y * K := Int.mul_le_mul_of_nonneg_right (by omega) (by omega)
  rw [Int.add_mul] at a4
  have a5 : 0 ≤ l % M := Int.emod_nonneg _ (by omega)
  have a6 : l % M < M := Int.emod_lt_of_pos _ hM
  have a7 : 0 ≤ l % M * K := Int.mul_nonneg a5 (by omega)
  have a8 : (l % M + 1) * K ≤ M * K := Int.mul_le_mul_of_nonneg_right (by omega) (by omega)
  rw [Int.add_mul, Int.mul_comm M K, hKM] at a8
  have a9 : l * K = l / M * 18446744073709551616 + l % M * K := by
    have e := Int.mul_ediv_add_emod l M
    calc l * K = (M * (l / M) + l % M) * K := by rw [e]
      _ = l / M * (K * M) + l % M * K := by rw [Int.add_mul]; congr 1; ac_rfl
      _ = _ := by rw [hKM]
  refine ⟨by omega, by omega, ?_, a7, by omega, by omega, a1, a2⟩
  rw [Int.add_mul, a9, Int.add_mul]
  have : h * 18446744073709551616 * K = h * K * 18446744073709551616 := by ac_rfl
  omega

/-- what the two steps come to -/
theorem knuth_end {U L Y h l y K q1 q0 R1 R0 u1 u0 : Int} (hK : 1 ≤ K) (y0 : 0 < y) (hY : Y = y * K) (hN : (h * 18446744073709551616 + l) * K = U * 18446744073709551616 + L) (hL : L = u1 * 4294967296 + u0)
    (h1 : R1 = U * 4294967296 + u1 - q1 * Y) (h0 : R0 = R1 * 4294967296 + u0 - q0 * Y) (r0 : 0 ≤ R0) (r1 : R0 < Y) :
    (h * 18446744073709551616 + l) / y = q1 * 4294967296 + q0 ∧ (h * 18446744073709551616 + l) % y = R0 / K := by
  have e : (h * 18446744073709551616 + l) * K = (q1 * 4294967296 + q0) * Y + R0 := by
    rw [hN, hL, h0, h1, Int.add_mul]
    have : q1 * 4294967296 * Y = q1 * Y * 4294967296 := by ac_rfl
    omega
  obtain ⟨N, hNN⟩ : ∃ N, N = h * 18446744073709551616 + l := ⟨_, rfl⟩
  obtain ⟨q, hq⟩ : ∃ q, q = q1 * 4294967296 + q0 := ⟨_, rfl⟩
  rw [← hNN, ← hq] at e ⊢
  -- R0 is a multiple of K
  have hd : R0 = (N - q * y) * K := by rw [Int.sub_mul, e, hY, ← Int.mul_assoc]; omega
  have hr : R0 / K = N - q * y := by rw [hd, Int.mul_ediv_cancel _ (by omega)]
  rw [hr]
  have c0 : 0 ≤ N - q * y := by
    rcases Int.lt_or_le (N - q * y) 0 with hneg | h
    · have : (N - q * y) * K ≤ (-1) * K := Int.mul_le_mul_of_nonneg_right (by omega) (by omega)
      omega
    · exact h
  have c1 : N - q * y < y := by
    rcases Int.lt_or_le (N - q * y) y with h | hge
    · exact h
    · have : y * K ≤ (N - q * y) * K := Int.mul_le_mul_of_nonneg_right hge (by omega)
      omega
  have hdiv : N / y = q := by
    have : N = (N - q * y) + y * q := by rw [Int.mul_comm y q]; omega
    rw [this, Int.add_mul_ediv_left _ _ (by omega), Int.ediv_eq_zero_of_lt c0 c1, Int.zero_add]
  refine ⟨hdiv, ?_⟩
  rw [Int.emod_def, hdiv, Int.mul_comm]
end Go.Proofs.Ytdfkghpgekmmlaa

/- The plain law of a quotient by digits. Own work. -/
import Derived.Test.YtdfkghpgekmmlaaP2
namespace Go.Proofs.Ytdfkghpgekmmlaa
/-- k digits are left -/
structure DivI (xs qs : List Int) (y r : Int) (k : Nat) : Prop where
  l : qs.length = xs.length
  g : Rg qs
  hk : k ≤ xs.length
  r0 : 0 ≤ r
  r1 : r < y
  s : nat (xs.drop k) = nat (qs.drop k) * y + r
theorem DivI.start (xs : List Int) {y : Int} (hy : 0 < y) : DivI xs (List.replicate xs.length 0) y 0 xs.length := by
  refine ⟨by simp, fun d hd => ?_, Nat.le_refl _, by omega, hy, ?_⟩
  · rw [List.eq_of_mem_replicate hd]; omega
  · rw [List.drop_of_length_le (Nat.le_refl _), List.drop_of_length_le (by simp)]; simp [nat]
theorem nat_drop (xs : List Int) {k : Nat} (hk : k < xs.length) : nat (xs.drop k) = xs.getD k 0 + 65536 * nat (xs.drop (k + 1)) := by
  rw [List.drop_eq_getElem_cons hk, nat, List.getD_eq_getElem?_getD, List.getElem?_eq_getElem hk]
  rfl
theorem div_digit {y r d : Int} (r0 : 0 ≤ r) (r1 : r < y) (d0 : 0 ≤ d) (d1 : d < 65536) : 0 ≤ d + 65536 * r ∧ (d + 65536 * r) / y ≤ 65535 ∧ 0 ≤ (d + 65536 * r) / y := by
  refine ⟨by omega, ?_, Int.ediv_nonneg (by omega) (by omega)⟩
  have h : (d + 65536 * r) / y < 65536 := Int.ediv_lt_of_lt_mul (by omega) (by omega)
  omega
theorem DivI.step {xs qs : List Int} {y r : Int} {k : Nat} (h : DivI xs qs y r (k + 1)) (hx : Rg xs) : DivI xs (qs.set k ((xs.getD k 0 + 65536 * r) / y)) y (xs.getD k 0 + 65536 * r - y * ((xs.getD k 0 + 65536 * r) / y)) k := by
  obtain ⟨hl, hg, hk, h0, h1, hs⟩ := h
  have hd := hx.getD k
  have hq := div_digit h0 h1 hd.1 hd.2
  have hm := Int.emod_nonneg (xs.getD k 0 + 65536 * r) (show y ≠ 0 by omega)
  have hm2 := Int.emod_lt_of_pos (xs.getD k 0 + 65536 * r) (show 0 < y by omega)
  have he := Int.emod_def (xs.getD k 0 + 65536 * r) y
  refine ⟨by simpa using hl, hg.set _ (by omega), by omega, by omega, by omega, ?_⟩
  rw [nat_drop xs (k := k) (by omega), hs, nat_drop (qs.set k ((xs.getD k 0 + 65536 * r) / y)) (k := k) (by rw [List.length_set]; omega)]
  have e1 : (qs.set k ((xs.getD k 0 + 65536 * r) / y)).getD k 0 = (xs.getD k 0 + 65536 * r) / y := by
    rw [List.getD_eq_getElem?_getD, List.getElem?_set_self (by omega)]; rfl
  have e2 : (qs.set k ((xs.getD k 0 + 65536 * r) / y)).drop (k + 1) = qs.drop (k + 1) := by
    rw [List.drop_set_of_lt (by omega)]
  rw [e1, e2, Int.add_mul, Int.mul_add, Int.mul_assoc, Int.mul_comm y]
  omega
theorem DivI.done {xs qs : List Int} {y r : Int} (h : DivI xs qs y r 0) : nat qs = nat xs / y ∧ r = nat xs % y := by
  have hs := h.s
  rw [List.drop_zero, List.drop_zero] at hs
  have h0 := h.r0
  have h1 := h.r1
  rw [hs]
  constructor
  · rw [Int.add_comm, Int.add_mul_ediv_right _ _ (by omega), Int.ediv_eq_zero_of_lt h0 h1]; omega
  · rw [Int.add_comm, Int.add_mul_emod_self_right, Int.emod_eq_of_lt h0 h1]
end Go.Proofs.Ytdfkghpgekmmlaa

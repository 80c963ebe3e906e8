/- The plain law of a product, a power of 2 and a quotient by digits. Own work. -/
import Derived.Test.YtdfkghpgekmmlaaP1
namespace Go.Proofs.Ytdfkghpgekmmlaa
theorem mul16 {u v : Int} (u0 : 0 ≤ u) (u1 : u < 65536) (v0 : 0 ≤ v) (v1 : v < 65536) : 0 ≤ u * v ∧ u * v ≤ 4294836225 := by
  have h := Int.mul_nonneg u0 v0
  have h1 : 0 ≤ (65535 - u) * (65535 + v) := Int.mul_nonneg (by omega) (by omega)
  have h2 : 0 ≤ (65535 + u) * (65535 - v) := Int.mul_nonneg (by omega) (by omega)
  rw [Int.sub_mul, Int.mul_add, Int.mul_add] at h1
  rw [Int.add_mul, Int.mul_sub, Int.mul_sub] at h2
  omega
/-- i digits of xs are done -/
structure MulI (xs ys ds : List Int) (i : Nat) : Prop where
  l : ds.length = xs.length + ys.length
  g : Rg ds
  hi : i ≤ xs.length
  s : nat ds = nat (xs.take i) * nat ys
  z : ∀ k, i + ys.length ≤ k → ds.getD k 0 = 0
theorem MulI.start (xs ys : List Int) : MulI xs ys (List.replicate (xs.length + ys.length) 0) 0 := by
  refine ⟨by simp, fun d hd => ?_, by omega, by rw [nat_replicate]; simp [nat], fun k _ => ?_⟩
  · rw [List.eq_of_mem_replicate hd]; omega
  · rw [List.getD_eq_getElem?_getD, List.getElem?_replicate]; split <;> rfl
theorem MulI.done {xs ys ds : List Int} {i : Nat} (h : MulI xs ys ds i) (hi : xs.length ≤ i) : nat ds = nat xs * nat ys := by rw [h.s, nat_take_all xs hi]
/-- .. and j digits of ys for the next one -/
structure MulJ (xs ys ds es : List Int) (i j : Nat) (cy : Int) : Prop where
  l : es.length = xs.length + ys.length
  g : Rg es
  hj : j ≤ ys.length
  c0 : 0 ≤ cy
  c1 : cy < 65536
  s : nat es + 65536 ^ (i + j) * cy = nat ds + 65536 ^ i * (xs.getD i 0 * nat (ys.take j))
  z : ∀ k, i + ys.length ≤ k → es.getD k 0 = 0
theorem MulI.open {xs ys ds : List Int} {i : Nat} (h : MulI xs ys ds i) : MulJ xs ys ds ds i 0 0 := ⟨h.l, h.g, by omega, by omega, by omega, by simp [nat], h.z⟩
theorem getD_set_ne {ds : List Int} {i k : Nat} (h : i ≠ k) (d : Int) : (ds.set i d).getD k 0 = ds.getD k 0 := by
  rw [List.getD_eq_getElem?_getD, List.getD_eq_getElem?_getD, List.getElem?_set_ne h]
theorem MulJ.step {xs ys ds es : List Int} {i j : Nat} {cy n : Int} (h : MulJ xs ys ds es i j cy) (hx : Rg xs) (hy : Rg ys) (hi : i < xs.length) (hj : j < ys.length) (hn : n = es.getD (i + j) 0 + xs.getD i 0 * ys.getD j 0 + cy) : MulJ xs ys ds (es.set (i + j) (n % 65536)) i (j + 1) (n / 65536) := by
  obtain ⟨hl, hg, hj', h0, h1, hs, hz⟩ := h
  have a := hx.getD i
  have b := hy.getD j
  have e := hg.getD (i + j)
  have m := mul16 a.1 a.2 b.1 b.2
  refine ⟨by simpa using hl, hg.set _ (by omega), hj, by omega, by omega, ?_, fun k hk => ?_⟩
  · rw [nat_set (by omega), nat_take_succ', Int.mul_add, Int.mul_add, Int.mul_sub]
    have q1 : (65536 : Int) ^ (i + (j + 1)) * (n / 65536) = 65536 ^ (i + j) * (65536 * (n / 65536)) := by
      rw [← Nat.add_assoc, Int.pow_succ, Int.mul_assoc]
    have q2 : (65536 : Int) ^ (i + j) * n = 65536 ^ (i + j) * (65536 * (n / 65536)) + 65536 ^ (i + j) * (n % 65536) := by
      rw [← Int.mul_add]; congr 1; omega
    have q3 : (65536 : Int) ^ (i + j) * n = 65536 ^ (i + j) * es.getD (i + j) 0 + 65536 ^ (i + j) * (xs.getD i 0 * ys.getD j 0) + 65536 ^ (i + j) * cy := by
      rw [← Int.mul_add, ← Int.mul_add, ← hn]
    have q4 : (65536 : Int) ^ i * (xs.getD i 0 * (65536 ^ j * ys.getD j 0)) = 65536 ^ (i + j) * (xs.getD i 0 * ys.getD j 0) := by
      rw [Int.pow_add]
      simp only [Int.mul_assoc, Int.mul_left_comm]
    omega
  · rw [getD_set_ne (by omega)]; exact hz k hk
theorem MulJ.close {xs ys ds es : List Int} {i j : Nat} {cy : Int} (h : MulJ xs ys ds es i j cy) (hd : MulI xs ys ds i) (hi : i < xs.length) (hj : ys.length ≤ j) : MulI xs ys (es.set (i + ys.length) cy) (i + 1) := by
  obtain ⟨hl, hg, hj', h0, h1, hs, hz⟩ := h
  have ej : j = ys.length := by omega
  subst ej
  refine ⟨by simpa using hl, hg.set _ ⟨h0, h1⟩, hi, ?_, fun k hk => ?_⟩
  · rw [nat_set (by omega), hz _ (Nat.le_refl _), nat_take_succ', Int.add_mul, ← hd.s]
    rw [nat_take_all ys (Nat.le_refl _)] at hs
    rw [Int.mul_assoc, ← hs]
    simp
  · rw [getD_set_ne (by omega)]; exact hz k (by omega)
theorem sg_same {x y : Int} (h : (0 ≤ x ∧ 0 ≤ y) ∨ (x < 0 ∧ y < 0)) : ¬ x * y < 0 := by
  rcases h with ⟨h1, h2⟩ | ⟨h1, h2⟩
  · have := Int.mul_nonneg h1 h2; omega
  · have := Int.mul_nonneg (show 0 ≤ -x by omega) (show 0 ≤ -y by omega)
    rw [Int.neg_mul_neg] at this; omega
theorem sg_diff {x y : Int} (h : (0 ≤ x ∧ y < 0) ∨ (x < 0 ∧ 0 ≤ y)) : x * y ≤ 0 := by
  rcases h with ⟨h1, h2⟩ | ⟨h1, h2⟩
  · have := Int.mul_nonneg h1 (show 0 ≤ -y by omega)
    rw [Int.mul_neg] at this; omega
  · have := Int.mul_nonneg (show 0 ≤ -x by omega) h2
    rw [Int.neg_mul] at this; omega
theorem pow_16 (n : Nat) : (0 : Int) < 2 ^ (n % 16) ∧ (2 : Int) ^ (n % 16) < 65536 := by
  have hp : (0 : Int) < 2 ^ (n % 16) := Int.pow_pos (by decide)
  have hlt : (2 : Int) ^ (n % 16) < 65536 := by
    have h16 := Nat.mod_lt n (show 0 < 16 by decide)
    have h1 : (2 : Int) ^ (n % 16) * 2 ^ (15 - n % 16) = 2 ^ 15 := by rw [← Int.pow_add]; congr 1; omega
    have h2 : (0 : Int) < 2 ^ (15 - n % 16) := Int.pow_pos (by decide)
    have h3 := Int.mul_le_mul_of_nonneg_left (show (1 : Int) ≤ 2 ^ (15 - n % 16) by omega) (Int.le_of_lt hp)
    have e15 : (2 : Int) ^ 15 = 32768 := rfl
    rw [h1, e15] at h3
    omega
  exact ⟨hp, hlt⟩
/-- a power of 2 -/
theorem pow2_digs (n : Nat) : digs (2 ^ n) = (List.replicate (n / 16 + 1) 0).set (n / 16) (2 ^ (n % 16)) := by
  have e : (List.replicate (n / 16 + 1) (0 : Int)).set (n / 16) (2 ^ (n % 16)) = List.replicate (n / 16) 0 ++ [2 ^ (n % 16)] := by
    rw [List.replicate_succ', List.set_append_right _ _ (by simp)]
    simp
  obtain ⟨hp, hlt⟩ := pow_16 n
  rw [e]
  have hr : Rg (List.replicate (n / 16) (0 : Int) ++ [2 ^ (n % 16)]) := Rg.append.2 ⟨fun d hd => by rw [List.eq_of_mem_replicate hd]; omega, Rg.cons.2 ⟨⟨by omega, hlt⟩, Rg.nil⟩⟩
  have hc : Can (List.replicate (n / 16) (0 : Int) ++ [2 ^ (n % 16)]) := (can_snoc _ _).2 (by omega)
  rw [← digs_nat hr hc, nat_append, nat_replicate, List.length_replicate]
  simp only [nat]
  congr 1
  have : (65536 : Int) ^ (n / 16) = 2 ^ (16 * (n / 16)) := by rw [Int.pow_mul]; rfl
  rw [this]
  have h2 : n = 16 * (n / 16) + n % 16 := by omega
  calc (2 : Int) ^ n = 2 ^ (16 * (n / 16) + n % 16) := by rw [← h2]
    _ = _ := by rw [Int.pow_add]; simp
end Go.Proofs.Ytdfkghpgekmmlaa

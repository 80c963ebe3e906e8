/- limb.short, limb.Div: the quotient of a number of 256 bits by one of 128, and what is left. -/
import Derived.Test.YtdfkghpgekmmlaaC3
import Derived.Test.YtdfkghpgekmmlaaC4
namespace Go.Proofs.Ytdfkghpgekmmlaa
open Go.RowKit
set_option linter.unusedVariables false
set_option linter.unusedSimpArgs false

theorem blk1 (w : World) (o : Obj) (t : TypeId) (cs : Array Value) : Blk ((w.alloc o).alloc (.cells cs t)) (w.heap.size + 1) t cs := by simpa using Blk.new (w.alloc o) t cs
theorem blk2 (w : World) (o o' : Obj) (t : TypeId) (cs : Array Value) : Blk (((w.alloc o).alloc o').alloc (.cells cs t)) (w.heap.size + 1 + 1) t cs := by simpa using blk1 (w.alloc o) o' t cs
theorem blk3 (w : World) (o o' o'' : Obj) (t : TypeId) (cs : Array Value) : Blk ((((w.alloc o).alloc o').alloc o'').alloc (.cells cs t)) (w.heap.size + 1 + 1 + 1) t cs := by simpa using blk2 (w.alloc o) o' o'' t cs
theorem blk4 (w : World) (o o' o'' o3 : Obj) (t : TypeId) (cs : Array Value) : Blk (((((w.alloc o).alloc o').alloc o'').alloc o3).alloc (.cells cs t)) (w.heap.size + 1 + 1 + 1 + 1) t cs := by simpa using blk3 (w.alloc o) o' o'' o3 t cs

/-- the two steps of 'short' -/
theorem short_law {h l d : Int} (h0 : 0 ≤ h) (hd : h < d) (hd1 : d < 18446744073709551616) (lM : InM l) :
    InM ((h * 340282366920938463463374607431768211456 + l) / d) ∧
    (h * 18446744073709551616 + hi l) / d = hi ((h * 340282366920938463463374607431768211456 + l) / d) ∧
    ((h * 18446744073709551616 + hi l) % d * 18446744073709551616 + lo l) / d = lo ((h * 340282366920938463463374607431768211456 + l) / d) ∧
    ((h * 18446744073709551616 + hi l) % d * 18446744073709551616 + lo l) % d = (h * 340282366920938463463374607431768211456 + l) % d ∧
    0 ≤ (h * 18446744073709551616 + hi l) % d ∧ (h * 18446744073709551616 + hi l) % d < d := by
  have hh := inM_hi lM
  have l0 := lo0 l
  have l1 := lo1 l
  have hl := hilo l
  obtain ⟨a, ha⟩ : ∃ a, a = h * 18446744073709551616 + hi l := ⟨_, rfl⟩
  rw [← ha]
  have e1 := Int.mul_ediv_add_emod a d
  have r0 := Int.emod_nonneg a (show d ≠ 0 by omega)
  have r1 := Int.emod_lt_of_pos a (show 0 < d by omega)
  have q0 : 0 ≤ a / d := Int.ediv_nonneg (by omega) (by omega)
  have q1 : a / d < 18446744073709551616 := Int.ediv_lt_of_lt_mul (by omega) (by omega)
  obtain ⟨q, hq⟩ : ∃ q, q = a / d := ⟨_, rfl⟩
  obtain ⟨r, hr⟩ : ∃ r, r = a % d := ⟨_, rfl⟩
  rw [← hq, ← hr] at e1
  rw [← hr] at r0 r1
  rw [← hq] at q0 q1
  rw [← hq, ← hr]
  obtain ⟨b, hb⟩ : ∃ b, b = r * 18446744073709551616 + lo l := ⟨_, rfl⟩
  rw [← hb]
  have e2 := Int.mul_ediv_add_emod b d
  have s0 := Int.emod_nonneg b (show d ≠ 0 by omega)
  have s1 := Int.emod_lt_of_pos b (show 0 < d by omega)
  have p0 : 0 ≤ b / d := Int.ediv_nonneg (by omega) (by omega)
  have p1 : b / d < 18446744073709551616 := Int.ediv_lt_of_lt_mul (by omega) (by omega)
  obtain ⟨p, hp⟩ : ∃ p, p = b / d := ⟨_, rfl⟩
  obtain ⟨s, hs⟩ : ∃ s, s = b % d := ⟨_, rfl⟩
  rw [← hp, ← hs] at e2
  rw [← hs] at s0 s1
  rw [← hp] at p0 p1
  rw [← hp, ← hs]
  have eT : h * 340282366920938463463374607431768211456 + l = s + d * (q * 18446744073709551616 + p) := by
    rw [Int.mul_add, ← Int.mul_assoc]; omega
  have hQ : (h * 340282366920938463463374607431768211456 + l) / d = q * 18446744073709551616 + p := by
    rw [eT, Int.add_mul_ediv_left _ _ (by omega), Int.ediv_eq_zero_of_lt s0 s1, Int.zero_add]
  have hR : (h * 340282366920938463463374607431768211456 + l) % d = s := by
    rw [eT, Int.add_mul_emod_self_left, Int.emod_eq_of_lt s0 s1]
  rw [hQ, hR]
  refine ⟨by unfold InM; omega, by unfold hi; omega, by unfold lo; omega, rfl, r0, r1⟩

set_option maxHeartbeats 2000000 in
set_option maxRecDepth 100000 in
theorem short_any (h l d : Int) (h0 : 0 ≤ h) (hd : h < d) (hd1 : d < 18446744073709551616) (lM : InM l) (w : World) :
    Calls Try.prog 72 #[.agg #[.int .u64 (hi (h)), .int .u64 (lo (h))], .agg #[.int .u64 (hi (l)), .int .u64 (lo (l))], .int .u64 d] w fun e w' => e = .returned (.tuple #[.agg #[.int .u64 (hi ((h * 340282366920938463463374607431768211456 + l) / d)), .int .u64 (lo ((h * 340282366920938463463374607431768211456 + l) / d))], .agg #[.int .u64 (hi ((h * 340282366920938463463374607431768211456 + l) % d)), .int .u64 (lo ((h * 340282366920938463463374607431768211456 + l) % d))]]) ∧ Below w.heap.size w w' := by
  obtain ⟨k0, k1, k2, k3, k4, k5⟩ := short_law h0 hd hd1 lM
  have hh := inM_hi lM
  have l0 := lo0 l
  have l1 := lo1 l
  have elo : lo h = h := by unfold lo; omega
  rw [elo]
  have HD1 := Lib.hid (div64_any h (hi l) d h0 hd hd1 hh.1 hh.2)
  obtain ⟨r, hr⟩ : ∃ r, r = (h * 18446744073709551616 + hi l) % d := ⟨_, rfl⟩
  rw [← hr] at k2 k3 k4 k5
  have HD2 := Lib.hid (div64_any r (lo l) d k4 k5 hd1 l0 l1)
  rw [← hr, k1] at HD1
  rw [k2, k3] at HD2
  have hr' : 0 ≤ (h * 340282366920938463463374607431768211456 + l) % d ∧ (h * 340282366920938463463374607431768211456 + l) % d < d := ⟨Int.emod_nonneg _ (by omega), Int.emod_lt_of_pos _ (by omega)⟩
  obtain ⟨R, hR⟩ : ∃ R, R = (h * 340282366920938463463374607431768211456 + l) % d := ⟨_, rfl⟩
  obtain ⟨Q, hQ⟩ : ∃ Q, Q = (h * 340282366920938463463374607431768211456 + l) / d := ⟨_, rfl⟩
  rw [← hR] at HD2 hr' ⊢
  rw [← hQ] at HD1 HD2 ⊢
  have eh : hi R = 0 := by unfold hi; omega
  have el : lo R = R := by unfold lo; omega
  rw [eh, el]
  clear k0 k1 k2 k3 k4 k5 hh l0 l1 elo hr hR hQ lM eh el
  go_enter Try.func72, Try.ntmps72
  go_wp2_with fail
  refine (HD1.out _).mono ?_
  rintro e w1 ⟨rfl, hb1⟩
  have hl1 := (((blk1 w (.cells #[.int .u64 (hi h), .int .u64 h] 96) 96 #[.int .u64 (hi l), .int .u64 (lo l)]).alloc (.cells #[.int .u64 0, .int .u64 0] 96)).alloc (.cells #[.int .u64 0, .int .u64 0] 96)).below hb1 (by simp)
  have hq1 := ((blk2 w (.cells #[.int .u64 (hi h), .int .u64 h] 96) (.cells #[.int .u64 (hi l), .int .u64 (lo l)] 96) 96 #[.int .u64 0, .int .u64 0]).alloc (.cells #[.int .u64 0, .int .u64 0] 96)).below hb1 (by simp)
  have hr1 := (blk3 w (.cells #[.int .u64 (hi h), .int .u64 h] 96) (.cells #[.int .u64 (hi l), .int .u64 (lo l)] 96) (.cells #[.int .u64 0, .int .u64 0] 96) 96 #[.int .u64 0, .int .u64 0]).below hb1 (by simp)
  have HB1 := Lib.hid (below_to (by repeat (first | exact Below.refl _ _ | assumption | refine below_al ?_ _ | refine below_dr ?_ | refine below_drN ?_ _ | refine below_set ?_ (by simp; try omega) _ | (refine below_to ?_ (by assumption)))) hb1)
  have c0 := hl1.cell 1
  simp at c0
  have HQ1 := Lib.hid hq1
  have HR1 := Lib.hid hr1
  clear hb1 hl1 hq1 hr1
  go_wp2_with fail
  refine (HD2.out _).mono ?_
  rintro e w2 ⟨rfl, hb2⟩
  have HB2 := Lib.hid (below_to HB1.out hb2)
  have hq2 := HQ1.out.below hb2 HQ1.out.lt
  have hr2 := HR1.out.below hb2 HR1.out.lt
  have c20 := hq2.cell 0
  have c21 := hq2.cell 1
  have c30 := hr2.cell 0
  have c31 := hr2.cell 1
  have f20 := hq2.frozen 0
  have f21 := hq2.frozen 1
  have f30 := hr2.frozen 0
  have f31 := hr2.frozen 1
  simp at c20 c21 c30 c31
  clear hq2 hr2 hb2 c0
  go_wp2
  have HB := HB2.out
  refine bodyPost_ret (v := ?_) (by simp [results, Try.results72, go_sem, *]; rfl) rfl ⟨rfl, (by repeat (first | exact Below.refl _ _ | assumption | refine below_al ?_ _ | refine below_dr ?_ | refine below_drN ?_ _ | refine below_set ?_ (by simp; try omega) _ | (refine below_to ?_ (by assumption))))⟩

/-- what limb.Div keeps in memory -/
def DW (w W : World) (h l d q r : Int) : Prop :=
  Blk W w.heap.size 96 #[.int .u64 (hi h), .int .u64 (lo h)] ∧ Blk W (w.heap.size + 1) 96 #[.int .u64 (hi l), .int .u64 (lo l)] ∧ Blk W (w.heap.size + 1 + 1) 96 #[.int .u64 (hi d), .int .u64 (lo d)] ∧
  Blk W (w.heap.size + 1 + 1 + 1) 96 #[.int .u64 (hi q), .int .u64 (lo q)] ∧ Blk W (w.heap.size + 1 + 1 + 1 + 1) 96 #[.int .u64 (hi r), .int .u64 (lo r)] ∧ Below w.heap.size w W
namespace DW
variable {w W W' : World} {h l d q r : Int}
theorem bel (k : DW w W h l d q r) (hb : Below W.heap.size W W') : DW w W' h l d q r := by
  obtain ⟨h0, h1, h2, h3, h4, h5⟩ := k
  exact ⟨h0.below hb h0.lt, h1.below hb h1.lt, h2.below hb h2.lt, h3.below hb h3.lt, h4.below hb h4.lt, below_to h5 hb⟩
theorem two {g : Nat} {t : TypeId} {a b : Value} (k : Blk W g t #[a, b]) (a' b' : Value) : Blk ((W.setCell ⟨g, 0, none⟩ a').setCell ⟨g, 1, none⟩ b') g t #[a', b'] := by
  have := (k.set_ 0 a').set_ 1 b'
  simpa using this
theorem two_far {g g' : Nat} {t : TypeId} {cs : Array Value} (k : Blk W g' t cs) (hne : g' ≠ g) (a' b' : Value) : Blk ((W.setCell ⟨g, 0, none⟩ a').setCell ⟨g, 1, none⟩ b') g' t cs := (k.far (p := ⟨g, 0, none⟩) hne a').far (p := ⟨g, 1, none⟩) hne b'
theorem setL (k : DW w W h l d q r) (z : Int) : DW w ((W.setCell ⟨w.heap.size + 1, 0, none⟩ (.int .u64 (hi z))).setCell ⟨w.heap.size + 1, 1, none⟩ (.int .u64 (lo z))) h z d q r := by
  obtain ⟨h0, h1, h2, h3, h4, h5⟩ := k
  exact ⟨two_far h0 (by omega) _ _, two h1 _ _, two_far h2 (by omega) _ _, two_far h3 (by omega) _ _, two_far h4 (by omega) _ _, below_set (below_set h5 (by simp) _) (by simp) _⟩
theorem setQ (k : DW w W h l d q r) (z : Int) : DW w ((W.setCell ⟨w.heap.size + 1 + 1 + 1, 0, none⟩ (.int .u64 (hi z))).setCell ⟨w.heap.size + 1 + 1 + 1, 1, none⟩ (.int .u64 (lo z))) h l d z r := by
  obtain ⟨h0, h1, h2, h3, h4, h5⟩ := k
  exact ⟨two_far h0 (by omega) _ _, two_far h1 (by omega) _ _, two_far h2 (by omega) _ _, two h3 _ _, two_far h4 (by omega) _ _, below_set (below_set h5 (by simp; omega) _) (by simp; omega) _⟩
theorem setR (k : DW w W h l d q r) (z : Int) : DW w ((W.setCell ⟨w.heap.size + 1 + 1 + 1 + 1, 0, none⟩ (.int .u64 (hi z))).setCell ⟨w.heap.size + 1 + 1 + 1 + 1, 1, none⟩ (.int .u64 (lo z))) h l d q z := by
  obtain ⟨h0, h1, h2, h3, h4, h5⟩ := k
  exact ⟨two_far h0 (by omega) _ _, two_far h1 (by omega) _ _, two_far h2 (by omega) _ _, two_far h3 (by omega) _ _, two h4 _ _, below_set (below_set h5 (by simp; omega) _) (by simp; omega) _⟩
theorem setQ1 (k : DW w W h l d q r) (hq : q % 2 = 0) : DW w (W.setCell ⟨w.heap.size + 1 + 1 + 1, 1, none⟩ (.int .u64 (lo q + 1))) h l d (q + 1) r := by
  obtain ⟨h0, h1, h2, h3, h4, h5⟩ := k
  refine ⟨h0.far (by simp; omega) _, h1.far (by simp) _, h2.far (by simp) _, ?_, h4.far (by simp) _, below_set h5 (by simp; omega) _⟩
  have := h3.set_ 1 (.int .u64 (lo q + 1))
  have e1 : hi q = hi (q + 1) := by unfold hi; omega
  have e2 : lo q + 1 = lo (q + 1) := by unfold lo; omega
  simp at this
  rw [← e1, ← e2]
  exact this
theorem cells (k : DW w W h l d q r) : W.cell? ⟨w.heap.size, 0, none⟩ = some (.int .u64 (hi h)) ∧ W.cell? ⟨w.heap.size, 1, none⟩ = some (.int .u64 (lo h)) ∧
    W.cell? ⟨w.heap.size + 1, 0, none⟩ = some (.int .u64 (hi l)) ∧ W.cell? ⟨w.heap.size + 1, 1, none⟩ = some (.int .u64 (lo l)) ∧
    W.cell? ⟨w.heap.size + 1 + 1, 0, none⟩ = some (.int .u64 (hi d)) ∧ W.cell? ⟨w.heap.size + 1 + 1, 1, none⟩ = some (.int .u64 (lo d)) ∧
    W.cell? ⟨w.heap.size + 1 + 1 + 1, 0, none⟩ = some (.int .u64 (hi q)) ∧ W.cell? ⟨w.heap.size + 1 + 1 + 1, 1, none⟩ = some (.int .u64 (lo q)) ∧
    W.cell? ⟨w.heap.size + 1 + 1 + 1 + 1, 0, none⟩ = some (.int .u64 (hi r)) ∧ W.cell? ⟨w.heap.size + 1 + 1 + 1 + 1, 1, none⟩ = some (.int .u64 (lo r)) := by
  obtain ⟨h0, h1, h2, h3, h4, h5⟩ := k
  exact ⟨by rw [h0.cell]; rfl, by rw [h0.cell]; rfl, by rw [h1.cell]; rfl, by rw [h1.cell]; rfl, by rw [h2.cell]; rfl, by rw [h2.cell]; rfl, by rw [h3.cell]; rfl, by rw [h3.cell]; rfl, by rw [h4.cell]; rfl, by rw [h4.cell]; rfl⟩
theorem frees (k : DW w W h l d q r) : W.frozen? ⟨w.heap.size + 1, 0, none⟩ = false ∧ W.frozen? ⟨w.heap.size + 1, 1, none⟩ = false ∧ W.frozen? ⟨w.heap.size + 1 + 1 + 1, 0, none⟩ = false ∧ W.frozen? ⟨w.heap.size + 1 + 1 + 1, 1, none⟩ = false ∧
    W.frozen? ⟨w.heap.size + 1 + 1 + 1 + 1, 0, none⟩ = false ∧ W.frozen? ⟨w.heap.size + 1 + 1 + 1 + 1, 1, none⟩ = false := by
  obtain ⟨h0, h1, h2, h3, h4, h5⟩ := k
  exact ⟨h1.frozen 0, h1.frozen 1, h3.frozen 0, h3.frozen 1, h4.frozen 0, h4.frozen 1⟩
theorem mk (w : World) (h l d : Int) : DW w (((((w.alloc (.cells #[.int .u64 (hi h), .int .u64 (lo h)] 96)).alloc (.cells #[.int .u64 (hi l), .int .u64 (lo l)] 96)).alloc (.cells #[.int .u64 (hi d), .int .u64 (lo d)] 96)).alloc (.cells #[.int .u64 0, .int .u64 0] 96)).alloc (.cells #[.int .u64 0, .int .u64 0] 96)) h l d 0 0 :=
  ⟨((((Blk.new w _ _).alloc _).alloc _).alloc _).alloc _, (((blk1 w _ _ _).alloc _).alloc _).alloc _, ((blk2 w _ _ _ _).alloc _).alloc _, (blk3 w _ _ _ _ _).alloc _, blk4 w _ _ _ _ _ _, (by repeat (first | exact Below.refl _ _ | assumption | refine below_al ?_ _ | refine below_dr ?_ | refine below_drN ?_ _ | refine below_set ?_ (by simp; try omega) _ | (refine below_to ?_ (by assumption))))⟩
end DW
/-- the loop's law: after k rounds -/
def DI (T d : Int) (k : Nat) (l q r : Int) : Prop := T * 2 ^ k = (q * d + r) * 340282366920938463463374607431768211456 + l ∧ 0 ≤ r ∧ r < d ∧ InM l ∧ 0 ≤ q ∧ q < 2 ^ k
theorem DI.next {T d l q r : Int} {k : Nat} (h : DI T d k l q r) {q' r' : Int} (hq : (q' = 2 * q ∧ r' = 2 * r + hi l / 9223372036854775808) ∨ (q' = 2 * q + 1 ∧ r' = 2 * r + hi l / 9223372036854775808 - d)) (h0 : 0 ≤ r') (h1 : r' < d) :
    DI T d (k + 1) ((2 * l + 0) % 340282366920938463463374607431768211456) q' r' := by
  obtain ⟨e, r0, r1, hl, q0, q1⟩ := h
  have ep : (2 : Int) ^ (k + 1) = 2 ^ k * 2 := Int.pow_succ 2 k
  have et : T * 2 ^ (k + 1) = T * 2 ^ k * 2 := by rw [ep, Int.mul_assoc]
  obtain ⟨p, hp⟩ : ∃ p, p = (2 : Int) ^ k := ⟨_, rfl⟩
  rw [← hp] at ep
  have ed : q' * d + r' = 2 * (q * d) + (2 * r + hi l / 9223372036854775808) := by
    rcases hq with ⟨rfl, rfl⟩ | ⟨rfl, rfl⟩
    · rw [Int.mul_assoc]
    · rw [Int.add_mul, Int.mul_assoc]; omega
  refine ⟨?_, h0, h1, mod_in _, by omega, by omega⟩
  rw [et, e, ed]
  unfold InM at hl
  unfold hi
  omega
theorem DI.end_ {T d l q r : Int} (h : DI T d 128 l q r) (hT : 0 ≤ T) : T / d = q ∧ T % d = r := by
  obtain ⟨e, r0, r1, hl, q0, q1⟩ := h
  have e2 : (2 : Int) ^ 128 = 340282366920938463463374607431768211456 := by decide
  rw [e2] at e
  unfold InM at hl
  have e3 : T = r + d * q := by rw [Int.mul_comm d q]; omega
  exact ⟨by rw [e3, Int.add_mul_ediv_left _ _ (by omega), Int.ediv_eq_zero_of_lt r0 r1, Int.zero_add], by rw [e3, Int.add_mul_emod_self_left, Int.emod_eq_of_lt r0 r1]⟩
theorem DI.qle {T d l q r : Int} {k : Nat} (h : DI T d k l q r) (hk : k ≤ 127) : 2 * q + 0 < 340282366920938463463374607431768211456 := by
  have h1 : q < 2 ^ k := h.2.2.2.2.2
  have h2 : (2 : Nat) ^ k ≤ 2 ^ 127 := Nat.pow_le_pow_right (by omega) hk
  have h3 : (((2 : Nat) ^ k : Nat) : Int) ≤ ((170141183460469231731687303715884105728 : Nat) : Int) := Int.ofNat_le.2 (by rw [show (170141183460469231731687303715884105728 : Nat) = 2 ^ 127 by decide]; exact h2)
  have h4 : (2 : Int) ^ k ≤ 170141183460469231731687303715884105728 := by simpa using h3
  omega
end Go.Proofs.Ytdfkghpgekmmlaa

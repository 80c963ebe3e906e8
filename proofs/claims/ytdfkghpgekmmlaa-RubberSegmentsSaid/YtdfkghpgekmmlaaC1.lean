/- Walks of package limb, and of wide's leaves: what the Go functions come to, in whole numbers. -/
import Derived.Test.YtdfkghpgekmmlaaB
import Derived.Lib.EndianBits
namespace Go.Proofs.Ytdfkghpgekmmlaa
open Go.RowKit
set_option linter.unusedVariables false
set_option linter.unusedSimpArgs false

set_option maxHeartbeats 400000 in
theorem of_any (n : Int) (h0 : -9223372036854775808 ≤ n) (h1 : n < 9223372036854775808) (w : World) :
    Calls Try.prog 42 #[.int .i64 n] w fun e w' => e = .returned (.agg #[.int .i64 (hi (n)), .int .u64 (lo (n))]) ∧ Below w.heap.size w w' := by
  go_enter Try.func42, Try.ntmps42
  go_wp2
  refine bodyPost_ret (v := ?_) (by simp [results, Try.results42, go_sem]; rfl) rfl ⟨ret_1 ?_ ?_, below_al (Below.refl _ _) _⟩
  · unfold hi; omega
  · simp only [IntKind.wrap_u64]; unfold lo; omega

set_option maxHeartbeats 400000 in
theorem bits_any (z : Int) (w : World) :
    Calls Try.prog 61 #[.agg #[.int .i64 (hi (z)), .int .u64 (lo (z))]] w fun e w' => e = .returned (.agg #[.int .u64 (hi (z % 340282366920938463463374607431768211456)), .int .u64 (lo (z % 340282366920938463463374607431768211456))]) ∧ Below w.heap.size w w' := by
  go_enter Try.func61, Try.ntmps61
  go_wp2
  refine bodyPost_ret (v := ?_) (by simp [results, Try.results61, go_sem]; rfl) rfl ⟨ret_1 ?_ ?_, below_al (below_al (Below.refl _ _) _) _⟩
  · simp only [IntKind.wrap_u64]; unfold hi; omega
  · unfold lo; omega

/-- the number with a sign of 128 bits -/
def sgn (z : Int) : Int := if z < 170141183460469231731687303715884105728 then z else z - 340282366920938463463374607431768211456
theorem sgn_in {z : Int} (h : InM z) : InW (sgn z) := by unfold InM at h; unfold InW sgn; split <;> omega
theorem sgn_mod {z : Int} (h : InW z) : sgn (z % 340282366920938463463374607431768211456) = z := by unfold InW at h; unfold sgn; split <;> omega
theorem mod_in (z : Int) : InM (z % 340282366920938463463374607431768211456) := by unfold InM; omega

set_option maxHeartbeats 400000 in
theorem from_any (z : Int) (hz : InM z) (w : World) :
    Calls Try.prog 63 #[.agg #[.int .u64 (hi (z)), .int .u64 (lo (z))]] w fun e w' => e = .returned (.agg #[.int .i64 (hi (sgn z)), .int .u64 (lo (sgn z))]) ∧ Below w.heap.size w w' := by
  have hh := inM_hi hz
  go_enter Try.func63, Try.ntmps63
  go_wp2
  refine bodyPost_ret (v := ?_) (by simp [results, Try.results63, go_sem]; rfl) rfl ⟨ret_1 ?_ ?_, below_al (below_al (Below.refl _ _) _) _⟩
  · unfold wrap64 hi sgn; unfold InM at hz; split <;> omega
  · unfold lo sgn; split <;> omega

theorem ladd_lo (a b : Int) : (lo a + lo b) % 18446744073709551616 = lo ((a + b) % 340282366920938463463374607431768211456) := by unfold lo; omega
theorem ladd_hi (a b : Int) : (hi a + hi b + (lo a + lo b) / 18446744073709551616) % 18446744073709551616 = hi ((a + b) % 340282366920938463463374607431768211456) := by unfold lo hi; omega
theorem ladd_c {a b : Int} (ha : InM a) (hb : InM b) : ((hi a + hi b + (lo a + lo b) / 18446744073709551616) / 18446744073709551616 == 1) = decide (340282366920938463463374607431768211456 ≤ a + b) := by
  unfold InM at ha hb
  rw [Bool.eq_iff_iff, beq_iff_eq, decide_eq_true_iff]; unfold lo hi; omega

set_option maxHeartbeats 400000 in
theorem ladd_any (a b : Int) (ha : InM a) (hb : InM b) (w : World) :
    Calls Try.prog 69 #[.agg #[.int .u64 (hi (a)), .int .u64 (lo (a))], .agg #[.int .u64 (hi (b)), .int .u64 (lo (b))]] w fun e w' => e = .returned (.tuple #[.agg #[.int .u64 (hi ((a + b) % 340282366920938463463374607431768211456)), .int .u64 (lo ((a + b) % 340282366920938463463374607431768211456))], .bool (decide (340282366920938463463374607431768211456 ≤ a + b))]) ∧ Below w.heap.size w w' := by
  have h1 := add64 (lo a) (lo b) 0 (lo0 a) (lo0 b) (by omega) (by omega)
  have h2 := add64 (hi a) (hi b) ((lo a + lo b) / 18446744073709551616) (inM_hi ha).1 (inM_hi hb).1 (by have := lo0 a; have := lo0 b; omega) (by have := lo1 a; have := lo1 b; omega)
  simp only [Int.add_zero] at h1
  go_enter Try.func69, Try.ntmps69
  go_wp2
  refine bodyPost_ret (v := ?_) (by simp [results, Try.results69, go_sem]; rfl) rfl ⟨ret_2 (ladd_hi a b) (ladd_lo a b) (congrArg Value.bool (ladd_c ha hb)), below_al (below_al (below_al (Below.refl _ _) _) _) _⟩

theorem lsub_lo (a b : Int) : (lo a - lo b) % 18446744073709551616 = lo ((a - b) % 340282366920938463463374607431768211456) := by unfold lo; omega
theorem lsub_hi (a b : Int) : (hi a - hi b - bor (lo a) (lo b) 0) % 18446744073709551616 = hi ((a - b) % 340282366920938463463374607431768211456) := by unfold bor lo hi; split <;> omega
theorem lsub_c {a b : Int} (ha : InM a) (hb : InM b) : (bor (hi a) (hi b) (bor (lo a) (lo b) 0) == 1) = decide (a < b) := by
  unfold InM at ha hb
  rw [Bool.eq_iff_iff, beq_iff_eq, decide_eq_true_iff]; unfold bor; unfold lo hi; split <;> split <;> omega

set_option maxHeartbeats 400000 in
theorem lsub_any (a b : Int) (ha : InM a) (hb : InM b) (w : World) :
    Calls Try.prog 66 #[.agg #[.int .u64 (hi (a)), .int .u64 (lo (a))], .agg #[.int .u64 (hi (b)), .int .u64 (lo (b))]] w fun e w' => e = .returned (.tuple #[.agg #[.int .u64 (hi ((a - b) % 340282366920938463463374607431768211456)), .int .u64 (lo ((a - b) % 340282366920938463463374607431768211456))], .bool (decide (a < b))]) ∧ Below w.heap.size w w' := by
  have h1 := sub64 (lo a) (lo b) 0 (lo0 a) (lo0 b) (lo1 a) (lo1 b) (by omega) (by omega)
  have hbb := bor_le (lo a) (lo b) 0
  have h2 := sub64 (hi a) (hi b) (bor (lo a) (lo b) 0) (inM_hi ha).1 (inM_hi hb).1 (inM_hi ha).2 (inM_hi hb).2 hbb.1 hbb.2
  clear hbb
  go_enter Try.func66, Try.ntmps66
  go_wp2
  refine bodyPost_ret (v := ?_) (by simp [results, Try.results66, go_sem]; rfl) rfl ⟨ret_2 (lsub_hi a b) (lsub_lo a b) (congrArg Value.bool (lsub_c ha hb)), below_al (below_al (below_al (Below.refl _ _) _) _) _⟩

theorem int_eq_of {a b : Int} (h1 : hi a = hi b) (h2 : lo a = lo b) : a = b := by rw [← hilo a, ← hilo b, h1, h2]
/-- what Cmp answers -/
def cmp3 (a b : Int) : Int := if a = b then 0 else if a < b then -1 else 1

set_option maxHeartbeats 400000 in
theorem lcmp_any (a b : Int) (ha : InM a) (hb : InM b) (w : World) :
    Calls Try.prog 71 #[.agg #[.int .u64 (hi (a)), .int .u64 (lo (a))], .agg #[.int .u64 (hi (b)), .int .u64 (lo (b))]] w fun e w' => e = .returned (.int .i64 (cmp3 a b)) ∧ Below w.heap.size w w' := by
  go_enter Try.func71, Try.ntmps71
  go_wp2
  all_goals (go_ret; refine ⟨ret_i ?_, (by repeat (first | exact Below.refl _ _ | assumption | refine below_al ?_ _ | refine below_dr ?_ | refine below_drN ?_ _ | refine below_set ?_ (by simp; try omega) _ | (refine below_to ?_ (by assumption))))⟩; clear ha hb; simp only [cmp3]; (try unfold hi at *); (try unfold lo at *); (repeat' split) <;> omega)

theorem or_bit (x y : Int) (h0 : 0 ≤ x) (h1 : x < 18446744073709551616) (h2 : x % 2 = 0) (y0 : 0 ≤ y) (y1 : y ≤ 1) : bits .or .u64 x y = x + y :=
  bits_join .u64 64 (by decide) wraps_u64 1 x y h0 (by omega) h1 y0 (by omega) (by omega)

set_option maxHeartbeats 400000 in
set_option maxRecDepth 100000 in
theorem ldouble_any (a bit : Int) (ha : InM a) (h0 : 0 ≤ bit) (h1 : bit ≤ 1) (w : World) :
    Calls Try.prog 73 #[.agg #[.int .u64 (hi (a)), .int .u64 (lo (a))], .int .u64 bit] w fun e w' => e = .returned (.tuple #[.agg #[.int .u64 (hi ((2 * a + bit) % 340282366920938463463374607431768211456)), .int .u64 (lo ((2 * a + bit) % 340282366920938463463374607431768211456))], .bool (decide (340282366920938463463374607431768211456 ≤ 2 * a + bit))]) ∧ Below w.heap.size w w' := by
  go_enter Try.func73, Try.ntmps73
  go_wp2
  go_region
  obtain ⟨hh0, hh1⟩ := inM_hi ha
  have hl0 := lo0 a
  have hl1 := lo1 a
  rw [IntKind.wrap_u64, IntKind.wrap_u64, or_bit _ (lo a / 9223372036854775808) (by omega) (by omega) (by omega) (by omega) (by omega), or_bit _ bit (by omega) (by omega) (by omega) (by omega) (by omega)]
  go_wp2
  refine bodyPost_ret (v := ?_) (by simp [results, Try.results73, go_sem]; rfl) rfl ⟨ret_2 ?_ ?_ (congrArg Value.bool ?_), (by repeat (first | exact Below.refl _ _ | assumption | refine below_al ?_ _ | refine below_dr ?_ | refine below_drN ?_ _ | refine below_set ?_ (by simp; try omega) _ | (refine below_to ?_ (by assumption))))⟩
  · unfold hi lo; omega
  · unfold lo; omega
  · rw [Bool.eq_iff_iff, beq_iff_eq, decide_eq_true_iff]; unfold InM at ha; unfold hi; omega
end Go.Proofs.Ytdfkghpgekmmlaa

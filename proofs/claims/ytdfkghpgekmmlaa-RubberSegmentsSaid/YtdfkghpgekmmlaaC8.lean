/- wide's leaves: size, signed, Cmp, above, least. -/
import Derived.Test.YtdfkghpgekmmlaaC7
namespace Go.Proofs.Ytdfkghpgekmmlaa
open Go.RowKit
set_option linter.unusedVariables false
set_option linter.unusedSimpArgs false

theorem ldiv_any (h l d : Int) (hh : InM h) (lM : InM l) (dM : InM d) (hd : h < d) (w : World) :
    Calls Try.prog 60 #[.agg #[.int .u64 (hi (h)), .int .u64 (lo (h))], .agg #[.int .u64 (hi (l)), .int .u64 (lo (l))], .agg #[.int .u64 (hi (d)), .int .u64 (lo (d))]] w fun e w' => e = .returned (.tuple #[.agg #[.int .u64 (hi ((h * 340282366920938463463374607431768211456 + l) / d)), .int .u64 (lo ((h * 340282366920938463463374607431768211456 + l) / d))], .agg #[.int .u64 (hi ((h * 340282366920938463463374607431768211456 + l) % d)), .int .u64 (lo ((h * 340282366920938463463374607431768211456 + l) % d))], .bool true]) ∧ Below w.heap.size w w' := by
  by_cases h1 : d < 18446744073709551616
  · exact ldiv_short h l d hh lM dM hd h1 w
  · exact ldiv_long h l d hh lM dM hd (by omega) w

/-- how far from 0 -/
def ab (z : Int) : Int := if z < 0 then -z else z
theorem ab_in {z : Int} (h : InW z) : InM (ab z) := by unfold InW at h; unfold ab InM; split <;> omega
def inW (z : Int) : Bool := decide (-170141183460469231731687303715884105728 ≤ z) && decide (z < 170141183460469231731687303715884105728)
theorem inW_iff (z : Int) : inW z = true ↔ InW z := by unfold inW InW; simp
/-- a number that fits, or 0; and the error's number -/
def fitV (z : Int) : Int := if inW z then z else 0
def fitE (z : Int) : Int := if inW z then 0 else 2
theorem fit_yes {z : Int} (h : InW z) : fitV z = z ∧ fitE z = 0 := by unfold fitV fitE; rw [(inW_iff z).2 h]; simp
theorem fit_no {z : Int} (h : ¬ InW z) : fitV z = 0 ∧ fitE z = 2 := by unfold fitV fitE; rw [show inW z = false by rw [Bool.eq_false_iff]; exact fun k => h ((inW_iff z).1 k)]; simp
theorem fitV_in (z : Int) : InW (fitV z) := by
  by_cases h : InW z
  · rw [(fit_yes h).1]; exact h
  · rw [(fit_no h).1]; unfold InW; omega

set_option maxHeartbeats 1000000 in
set_option maxRecDepth 100000 in
theorem size_any (z : Int) (hz : InW z) (w : World) :
    Calls Try.prog 59 #[.agg #[.int .i64 (hi (z)), .int .u64 (lo (z))]] w fun e w' => e = .returned (.agg #[.int .u64 (hi (ab z)), .int .u64 (lo (ab z))]) ∧ Below w.heap.size w w' := by
  have HB := Lib.hid (bits_any z)
  have HS := Lib.hid (lsub_any 0 (z % 340282366920938463463374607431768211456) (by unfold InM; omega) (mod_in z))
  have e0 : ab z = if z < 0 then -z else z := rfl
  have z0 : hi 0 = 0 := rfl
  have z1 : lo 0 = 0 := rfl
  rw [z0, z1] at HS
  by_cases h : 0 ≤ hi z
  · have hp : ¬ z < 0 := by unfold hi at h; omega
    rw [if_neg hp] at e0
    rw [e0]
    have em : z % 340282366920938463463374607431768211456 = z := by unfold InW at hz; omega
    rw [em] at HB
    clear HS e0 hp em hz
    go_enter Try.func59, Try.ntmps59
    go_wp2_with fail
    refine (HB.out _).mono ?_
    rintro e w1 ⟨rfl, hb1⟩
    have hq := (blk1 w (.cells #[.int .i64 (hi z), .int .u64 (lo z)] 39) 96 #[.int .u64 0, .int .u64 0]).below hb1 (by simp)
    have c20 := hq.cell 0
    have c21 := hq.cell 1
    have f20 := hq.frozen 0
    have f21 := hq.frozen 1
    simp at c20 c21
    have HB1 := Lib.hid (below_to (by repeat (first | exact Below.refl _ _ | assumption | refine below_al ?_ _ | refine below_dr ?_ | refine below_drN ?_ _ | refine below_set ?_ (by simp; try omega) _ | (refine below_to ?_ (by assumption)))) hb1)
    clear hq hb1
    go_wp2
    have HB2 := HB1.out
    refine bodyPost_ret (v := ?_) (by simp [results, Try.results59, go_sem, *]; rfl) rfl ⟨rfl, (by repeat (first | exact Below.refl _ _ | assumption | refine below_al ?_ _ | refine below_dr ?_ | refine below_drN ?_ _ | refine below_set ?_ (by simp; try omega) _ | (refine below_to ?_ (by assumption))))⟩
  · have hp : z < 0 := by unfold hi at h; omega
    rw [if_pos hp] at e0
    rw [e0]
    have em : (0 - z % 340282366920938463463374607431768211456) % 340282366920938463463374607431768211456 = -z := by unfold InW at hz; omega
    rw [em] at HS
    clear e0 hp em hz
    go_enter Try.func59, Try.ntmps59
    go_wp2_with fail
    refine (HB.out _).mono ?_
    rintro e w1 ⟨rfl, hb1⟩
    have hq := (blk1 w (.cells #[.int .i64 (hi z), .int .u64 (lo z)] 39) 96 #[.int .u64 0, .int .u64 0]).below hb1 (by simp)
    have HQ := Lib.hid hq
    have HB1 := Lib.hid (below_to (by repeat (first | exact Below.refl _ _ | assumption | refine below_al ?_ _ | refine below_dr ?_ | refine below_drN ?_ _ | refine below_set ?_ (by simp; try omega) _ | (refine below_to ?_ (by assumption)))) hb1)
    clear hq hb1
    go_wp2_with fail
    refine (HS.out _).mono ?_
    rintro e w2 ⟨rfl, hb2⟩
    have hq := HQ.out.below hb2 HQ.out.lt
    have hlt := hq.lt
    have c20 := hq.cell 0
    have c21 := hq.cell 1
    have f20 := hq.frozen 0
    have f21 := hq.frozen 1
    simp at c20 c21
    have HB2 := Lib.hid (below_to HB1.out hb2)
    clear hq hb2
    go_wp2
    have HB3 := HB2.out
    refine bodyPost_ret (v := ?_) (by simp [results, Try.results59, go_sem, *]; rfl) rfl ⟨rfl, (by repeat (first | exact Below.refl _ _ | assumption | refine below_al ?_ _ | refine below_dr ?_ | refine below_drN ?_ _ | refine below_set ?_ (by simp; try omega) _ | (refine below_to ?_ (by assumption))))⟩

set_option maxHeartbeats 400000 in
theorem wcmp_any (a b : Int) (ha : InW a) (hb : InW b) (w : World) :
    Calls Try.prog 31 #[.agg #[.int .i64 (hi (a)), .int .u64 (lo (a))], .agg #[.int .i64 (hi (b)), .int .u64 (lo (b))]] w fun e w' => e = .returned (.int .i64 (cmp3 a b)) ∧ Below w.heap.size w w' := by
  go_enter Try.func31, Try.ntmps31
  go_wp2
  all_goals (go_ret; refine ⟨ret_i ?_, (by repeat (first | exact Below.refl _ _ | assumption | refine below_al ?_ _ | refine below_dr ?_ | refine below_drN ?_ _ | refine below_set ?_ (by simp; try omega) _ | (refine below_to ?_ (by assumption))))⟩; clear ha hb; simp only [cmp3]; (try unfold hi at *); (try unfold lo at *); (repeat' split) <;> omega)
end Go.Proofs.Ytdfkghpgekmmlaa

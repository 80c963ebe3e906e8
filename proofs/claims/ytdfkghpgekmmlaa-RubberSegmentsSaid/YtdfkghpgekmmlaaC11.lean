/- wide.Sub; wide.Add and wide.Sub in whole numbers. -/
import Derived.Test.YtdfkghpgekmmlaaC10
namespace Go.Proofs.Ytdfkghpgekmmlaa
open Go.RowKit
set_option linter.unusedVariables false
set_option linter.unusedSimpArgs false

set_option maxHeartbeats 2000000 in
set_option maxRecDepth 100000 in
theorem wsub_core (a b s sa sb ss : Int) (N : Int) (hN : (a % 340282366920938463463374607431768211456 - b % 340282366920938463463374607431768211456) % 340282366920938463463374607431768211456 = N) (hs : sgn N = s) (hsa : hi a / 9223372036854775808 = sa) (hsb : hi b / 9223372036854775808 = sb) (hss : hi s / 9223372036854775808 = ss) (ov : Bool) (hov : (sa != sb && ss != sa) = ov) (w : World) :
    Calls Try.prog 65 #[.agg #[.int .i64 (hi (a)), .int .u64 (lo (a))], .agg #[.int .i64 (hi (b)), .int .u64 (lo (b))]] w fun e w' => e = .returned (.tuple #[.agg #[.int .i64 (hi (if ov then 0 else s)), .int .u64 (lo (if ov then 0 else s))], .int .i64 (if ov then 2 else 0)]) ∧ Below w.heap.size w w' := by
  have HA := Lib.hid (bits_any a)
  have HB := Lib.hid (bits_any b)
  have HL := Lib.hid (lsub_any (a % 340282366920938463463374607431768211456) (b % 340282366920938463463374607431768211456) (mod_in a) (mod_in b))
  rw [hN] at HL
  have HF := Lib.hid (from_any N (by rw [← hN]; exact mod_in _))
  rw [hs] at HF
  have HAW := Lib.hid (AW.mk w a b)
  have HOV := Lib.hid hov
  clear hs hN hov
  go_enter Try.func65, Try.ntmps65
  go_wp2_with fail
  go_region_held3 (fun w' => w'.cell? ⟨w.heap.size, 0, none⟩ = some (.int .i64 (hi a)) ∧ w'.cell? ⟨w.heap.size, 1, none⟩ = some (.int .u64 (lo a)) ∧ w'.cell? ⟨w.heap.size + 1, 0, none⟩ = some (.int .i64 (hi b)) ∧ w'.cell? ⟨w.heap.size + 1, 1, none⟩ = some (.int .u64 (lo b))) (first | go_keep | exact ((HAW3.out.set (by have := HAW1.out.2.2.1.lt; have := HAW2.out.2.2.1.lt; simp; try omega) _).set (by have := HAW1.out.2.2.1.lt; have := HAW2.out.2.2.1.lt; simp; try omega) _).cells)
    (first
      | (go_at_call 61; refine (HA.out _).mono ?_; rintro e w1 ⟨rfl, hb1⟩; have HAW1 := Lib.hid (show AW w w1 a b by first | exact HAW.out.dr.bel hb1 | exact (HAW.out.dr.al _).bel hb1); obtain ⟨k10, k11, k12, k13⟩ := HAW1.out.cells; (first | (have hq6 := hq6.below hb1 hq6.lt; have z60 := hq6.cell 0; have z61 := hq6.cell 1; have g60 := hq6.frozen 0; have g61 := hq6.frozen 1; simp at z60 z61 g60 g61) | (have hq6 := (Blk.new _ 96 #[.int .u64 0, .int .u64 0]).below hb1 (by simp); have z60 := hq6.cell 0; have z61 := hq6.cell 1; have g60 := hq6.frozen 0; have g61 := hq6.frozen 1; simp at z60 z61 g60 g61) | (have hq6 := (Blk.new _ 96 #[.int .u64 0, .int .u64 0]).drew.below hb1 (by simp); have z60 := hq6.cell 0; have z61 := hq6.cell 1; have g60 := hq6.frozen 0; have g61 := hq6.frozen 1; simp at z60 z61 g60 g61) | skip))
      | (go_at_call 61; refine (HB.out _).mono ?_; rintro e w2 ⟨rfl, hb2⟩; have HAW2 := Lib.hid (show AW w w2 a b by first | exact HAW1.out.bel hb2 | exact (HAW1.out.al _).bel hb2); obtain ⟨k20, k21, k22, k23⟩ := HAW2.out.cells; (first | (have hq6 := hq6.below hb2 hq6.lt; have z60 := hq6.cell 0; have z61 := hq6.cell 1; have g60 := hq6.frozen 0; have g61 := hq6.frozen 1; simp at z60 z61 g60 g61) | (have hq6 := (Blk.new _ 96 #[.int .u64 0, .int .u64 0]).below hb2 (by simp); have z60 := hq6.cell 0; have z61 := hq6.cell 1; have g60 := hq6.frozen 0; have g61 := hq6.frozen 1; simp at z60 z61 g60 g61) | (have hq6 := (Blk.new _ 96 #[.int .u64 0, .int .u64 0]).drew.below hb2 (by simp); have z60 := hq6.cell 0; have z61 := hq6.cell 1; have g60 := hq6.frozen 0; have g61 := hq6.frozen 1; simp at z60 z61 g60 g61) | skip))
      | (go_at_call 66; refine (HL.out _).mono ?_; rintro e w3 ⟨rfl, hb3⟩; have HAW3 := Lib.hid (show AW w w3 a b by first | exact HAW2.out.bel hb3 | exact (HAW2.out.al _).bel hb3); obtain ⟨k30, k31, k32, k33⟩ := HAW3.out.cells; (first | (have hq6 := hq6.below hb3 hq6.lt; have z60 := hq6.cell 0; have z61 := hq6.cell 1; have g60 := hq6.frozen 0; have g61 := hq6.frozen 1; simp at z60 z61 g60 g61) | (have hq6 := (Blk.new _ 96 #[.int .u64 0, .int .u64 0]).below hb3 (by simp); have z60 := hq6.cell 0; have z61 := hq6.cell 1; have g60 := hq6.frozen 0; have g61 := hq6.frozen 1; simp at z60 z61 g60 g61) | (have hq6 := (Blk.new _ 96 #[.int .u64 0, .int .u64 0]).drew.below hb3 (by simp); have z60 := hq6.cell 0; have z61 := hq6.cell 1; have g60 := hq6.frozen 0; have g61 := hq6.frozen 1; simp at z60 z61 g60 g61) | skip)))
  all_goals go_wp2_with fail
  all_goals
    refine (HF.out _).mono ?_
    rintro e w4 ⟨rfl, hb4⟩
    have HAW4 := Lib.hid (show AW w w4 a b by first | exact (HAW3.out.al _).bel hb4 | exact ((HAW3.out.set (by have := HAW1.out.2.2.1.lt; have := HAW2.out.2.2.1.lt; simp; try omega) _).set (by have := HAW1.out.2.2.1.lt; have := HAW2.out.2.2.1.lt; simp; try omega) _).bel hb4)
    obtain ⟨k40, k41, k42, k43⟩ := HAW4.out.cells
    have c20 := HAW4.out.2.2.1.cell 0
    have c21 := HAW4.out.2.2.1.cell 1
    have f20 := HAW4.out.2.2.1.frozen 0
    have f21 := HAW4.out.2.2.1.frozen 1
    have hlt := HAW4.out.2.2.1.lt
    have hl0 : w.heap.size < w4.heap.size := by omega
    have hl1 : w.heap.size + 1 < w4.heap.size := by omega
    simp at c20 c21
    clear HAW HAW1 HAW2 HAW3 HA HB HL HF hb1 hb2 hb3 hb4 k10 k11 k12 k13 k20 k21 k22 k23 k30 k31 k32 k33
    try clear z60 z61 g60 g61
    have HB4 := Lib.hid HAW4.out.2.2.2
    clear HAW4
    by_cases h1 : sa = sb
    · subst h1
      have ho : ov = false := by rw [← HOV.out]; simp
      subst ho
      go_wp2
      have HB5 := HB4.out
      refine bodyPost_ret (v := ?_) (by simp [results, Try.results65, go_sem, *]; rfl) rfl ⟨rfl, (by repeat (first | exact Below.refl _ _ | assumption | refine below_al ?_ _ | refine below_dr ?_ | refine below_drN ?_ _ | refine below_set ?_ (by simp; try omega) _ | (refine below_to ?_ (by assumption))))⟩
    · have h1a : (sa == sb) = false := by simpa using h1
      have h1b : (sa != sb) = true := by simpa using h1
      by_cases h2 : ss = sa
      · subst h2
        have ho : ov = false := by rw [← HOV.out]; simp
        subst ho
        go_wp2
        have HB5 := HB4.out
        refine bodyPost_ret (v := ?_) (by simp [results, Try.results65, go_sem, *]; rfl) rfl ⟨rfl, (by repeat (first | exact Below.refl _ _ | assumption | refine below_al ?_ _ | refine below_dr ?_ | refine below_drN ?_ _ | refine below_set ?_ (by simp; try omega) _ | (refine below_to ?_ (by assumption))))⟩
      · have ho : ov = true := by rw [← HOV.out]; simp [h1, h2]
        subst ho
        go_wp2
        have HB5 := HB4.out
        refine bodyPost_ret (v := ?_) (by simp [results, Try.results65, go_sem, *]; rfl) rfl ⟨rfl, (by repeat (first | exact Below.refl _ _ | assumption | refine below_al ?_ _ | refine below_dr ?_ | refine below_drN ?_ _ | refine below_set ?_ (by simp; try omega) _ | (refine below_to ?_ (by assumption))))⟩

def sg (z : Int) : Int := hi z / 9223372036854775808
theorem sg_eq {z : Int} (h : InW z) : sg z = if z < 0 then -1 else 0 := by unfold InW at h; unfold sg hi; split <;> omega
theorem wadd_any (a b : Int) (ha : InW a) (hb : InW b) (w : World) :
    Calls Try.prog 56 #[.agg #[.int .i64 (hi (a)), .int .u64 (lo (a))], .agg #[.int .i64 (hi (b)), .int .u64 (lo (b))]] w fun e w' => e = .returned (.tuple #[.agg #[.int .i64 (hi (fitV (a + b))), .int .u64 (lo (fitV (a + b)))], .int .i64 (fitE (a + b))]) ∧ Below w.heap.size w w' := by
  obtain ⟨N, hN⟩ : ∃ N, (a % 340282366920938463463374607431768211456 + b % 340282366920938463463374607431768211456) % 340282366920938463463374607431768211456 = N := ⟨_, rfl⟩
  have hNM : InM N := by rw [← hN]; exact mod_in _
  have hs := sgn_in hNM
  have h1 := sg_eq ha
  have h2 := sg_eq hb
  have h3 := sg_eq hs
  by_cases hf : InW (a + b)
  · obtain ⟨e1, e2⟩ := fit_yes hf
    have es : sgn N = a + b := by unfold InW at hf; unfold InM at hNM; unfold sgn; split <;> omega
    rw [e1, e2]
    have := wadd_core a b (a + b) (sg a) (sg b) (sg (a + b)) N hN es rfl rfl rfl false (by rw [es] at h3; rw [h1, h2, h3]; (repeat' split) <;> simp <;> omega) w
    simpa using this
  · obtain ⟨e1, e2⟩ := fit_no hf
    rw [e1, e2]
    have := wadd_core a b (sgn N) (sg a) (sg b) (sg (sgn N)) N hN rfl rfl rfl rfl true (by
      have hx : (sgn N < 0 ↔ 0 ≤ a) ∧ (a < 0 ↔ b < 0) := by unfold InW at hf ha hb; unfold InM at hNM; unfold sgn; split <;> omega
      rw [h1, h2, h3]; (repeat' split) <;> simp <;> omega) w
    simpa using this
theorem wsub_any (a b : Int) (ha : InW a) (hb : InW b) (w : World) :
    Calls Try.prog 65 #[.agg #[.int .i64 (hi (a)), .int .u64 (lo (a))], .agg #[.int .i64 (hi (b)), .int .u64 (lo (b))]] w fun e w' => e = .returned (.tuple #[.agg #[.int .i64 (hi (fitV (a - b))), .int .u64 (lo (fitV (a - b)))], .int .i64 (fitE (a - b))]) ∧ Below w.heap.size w w' := by
  obtain ⟨N, hN⟩ : ∃ N, (a % 340282366920938463463374607431768211456 - b % 340282366920938463463374607431768211456) % 340282366920938463463374607431768211456 = N := ⟨_, rfl⟩
  have hNM : InM N := by rw [← hN]; exact mod_in _
  have hs := sgn_in hNM
  have h1 := sg_eq ha
  have h2 := sg_eq hb
  have h3 := sg_eq hs
  by_cases hf : InW (a - b)
  · obtain ⟨e1, e2⟩ := fit_yes hf
    have es : sgn N = a - b := by unfold InW at hf; unfold InM at hNM; unfold sgn; split <;> omega
    rw [e1, e2]
    have := wsub_core a b (a - b) (sg a) (sg b) (sg (a - b)) N hN es rfl rfl rfl false (by rw [es] at h3; rw [h1, h2, h3]; (repeat' split) <;> simp <;> omega) w
    simpa using this
  · obtain ⟨e1, e2⟩ := fit_no hf
    rw [e1, e2]
    have := wsub_core a b (sgn N) (sg a) (sg b) (sg (sgn N)) N hN rfl rfl rfl rfl true (by
      have hx : (sgn N < 0 ↔ 0 ≤ a) ∧ (a < 0 ↔ 0 ≤ b) := by unfold InW at hf ha hb; unfold InM at hNM; unfold sgn; split <;> omega
      rw [h1, h2, h3]; (repeat' split) <;> simp <;> omega) w
    simpa using this
end Go.Proofs.Ytdfkghpgekmmlaa

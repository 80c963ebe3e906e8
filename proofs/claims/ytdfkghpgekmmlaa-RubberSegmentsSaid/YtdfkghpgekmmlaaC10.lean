/- wide.above, least, Add, Sub. -/
import Derived.Test.YtdfkghpgekmmlaaC9
namespace Go.Proofs.Ytdfkghpgekmmlaa
open Go.RowKit
set_option linter.unusedVariables false
set_option linter.unusedSimpArgs false

set_option maxHeartbeats 400000 in
set_option maxRecDepth 100000 in
theorem above_any (a : Int) (ha : InW a) (w : World) :
    Calls Try.prog 57 #[.agg #[.int .i64 (hi (a)), .int .u64 (lo (a))]] w fun e w' => e = .returned (.bool (decide (0 < a))) ∧ Below w.heap.size w w' := by
  have HC := Lib.hid (wcmp_any a 0 ha (by unfold InW; omega))
  have z0 : hi 0 = 0 := rfl
  have z1 : lo 0 = 0 := rfl
  rw [z0, z1] at HC
  have hd : decide (0 < cmp3 a 0) = decide (0 < a) := by unfold cmp3; (repeat' split) <;> simp <;> omega
  have HD := Lib.hid hd
  obtain ⟨c, hc⟩ : ∃ c, c = cmp3 a 0 := ⟨_, rfl⟩
  rw [← hc] at HC HD
  clear z0 z1 hd hc
  go_enter Try.func57, Try.ntmps57
  go_wp2_with fail
  refine (HC.out _).mono ?_
  rintro e w1 ⟨rfl, hb1⟩
  go_wp2
  go_ret
  exact ⟨ret_b HD.out, below_to (by repeat (first | exact Below.refl _ _ | assumption | refine below_al ?_ _ | refine below_dr ?_ | refine below_drN ?_ _ | refine below_set ?_ (by simp; try omega) _ | (refine below_to ?_ (by assumption)))) hb1⟩

set_option maxHeartbeats 400000 in
set_option maxRecDepth 100000 in
theorem least_any (a : Int) (ha : InW a) (w : World) :
    Calls Try.prog 64 #[.agg #[.int .i64 (hi (a)), .int .u64 (lo (a))]] w fun e w' => e = .returned (.bool (decide (a = -170141183460469231731687303715884105728))) ∧ Below w.heap.size w w' := by
  have hd : (hi a == -9223372036854775808 && lo a == 0) = decide (a = -170141183460469231731687303715884105728) := by
    rw [Bool.eq_iff_iff]; simp; unfold hi lo; omega
  have HD := Lib.hid hd
  clear hd ha
  go_enter Try.func64, Try.ntmps64
  go_wp2
  all_goals (go_ret; refine ⟨?_, (by repeat (first | exact Below.refl _ _ | assumption | refine below_al ?_ _ | refine below_dr ?_ | refine below_drN ?_ _ | refine below_set ?_ (by simp; try omega) _ | (refine below_to ?_ (by assumption))))⟩)
  all_goals (rw [← HD.out]; simp [*])

/-- the boxes of two numbers, and of the result -/
def AW (w W : World) (a b : Int) : Prop := Blk W w.heap.size 39 #[.int .i64 (hi a), .int .u64 (lo a)] ∧ Blk W (w.heap.size + 1) 39 #[.int .i64 (hi b), .int .u64 (lo b)] ∧
  Blk W (w.heap.size + 1 + 1) 39 #[.int .i64 0, .int .u64 0] ∧ Below w.heap.size w W
theorem AW.bel {w W W' : World} {a b : Int} (k : AW w W a b) (hb : Below W.heap.size W W') : AW w W' a b := ⟨k.1.below hb k.1.lt, k.2.1.below hb k.2.1.lt, k.2.2.1.below hb k.2.2.1.lt, below_to k.2.2.2 hb⟩
theorem AW.mk (w : World) (a b : Int) : AW w (((w.alloc (.cells #[.int .i64 (hi a), .int .u64 (lo a)] 39)).alloc (.cells #[.int .i64 (hi b), .int .u64 (lo b)] 39)).alloc (.cells #[.int .i64 0, .int .u64 0] 39)) a b :=
  ⟨((Blk.new w _ _).alloc _).alloc _, (blk1 w _ _ _).alloc _, blk2 w _ _ _ _, (by repeat (first | exact Below.refl _ _ | assumption | refine below_al ?_ _ | refine below_dr ?_ | refine below_drN ?_ _ | refine below_set ?_ (by simp; try omega) _ | (refine below_to ?_ (by assumption))))⟩
theorem AW.al {w W : World} {a b : Int} (k : AW w W a b) (o : Obj) : AW w (W.alloc o) a b := k.bel (below_al (Below.refl _ _) _)
theorem AW.set {w W : World} {a b : Int} (k : AW w W a b) {p : Addr} (hp : w.heap.size + 3 ≤ p.block) (v : Value) : AW w (W.setCell p v) a b :=
  ⟨k.1.far (by omega) _, k.2.1.far (by omega) _, k.2.2.1.far (by omega) _, below_set k.2.2.2 (by omega) _⟩
theorem AW.dr {w W : World} {a b : Int} (k : AW w W a b) : AW w W.drew a b := k.bel (below_dr (Below.refl _ _))
theorem AW.cells {w W : World} {a b : Int} (k : AW w W a b) : W.cell? ⟨w.heap.size, 0, none⟩ = some (.int .i64 (hi a)) ∧ W.cell? ⟨w.heap.size, 1, none⟩ = some (.int .u64 (lo a)) ∧ W.cell? ⟨w.heap.size + 1, 0, none⟩ = some (.int .i64 (hi b)) ∧ W.cell? ⟨w.heap.size + 1, 1, none⟩ = some (.int .u64 (lo b)) :=
  ⟨by rw [k.1.cell]; rfl, by rw [k.1.cell]; rfl, by rw [k.2.1.cell]; rfl, by rw [k.2.1.cell]; rfl⟩

set_option maxHeartbeats 2000000 in
set_option maxRecDepth 100000 in
theorem wadd_core (a b s sa sb ss : Int) (N : Int) (hN : (a % 340282366920938463463374607431768211456 + b % 340282366920938463463374607431768211456) % 340282366920938463463374607431768211456 = N) (hs : sgn N = s) (hsa : hi a / 9223372036854775808 = sa) (hsb : hi b / 9223372036854775808 = sb) (hss : hi s / 9223372036854775808 = ss) (ov : Bool) (hov : (sa == sb && ss != sa) = ov) (w : World) :
    Calls Try.prog 56 #[.agg #[.int .i64 (hi (a)), .int .u64 (lo (a))], .agg #[.int .i64 (hi (b)), .int .u64 (lo (b))]] w fun e w' => e = .returned (.tuple #[.agg #[.int .i64 (hi (if ov then 0 else s)), .int .u64 (lo (if ov then 0 else s))], .int .i64 (if ov then 2 else 0)]) ∧ Below w.heap.size w w' := by
  have HA := Lib.hid (bits_any a)
  have HB := Lib.hid (bits_any b)
  have HL := Lib.hid (ladd_any (a % 340282366920938463463374607431768211456) (b % 340282366920938463463374607431768211456) (mod_in a) (mod_in b))
  rw [hN] at HL
  have HF := Lib.hid (from_any N (by rw [← hN]; exact mod_in _))
  rw [hs] at HF
  have HAW := Lib.hid (AW.mk w a b)
  have HOV := Lib.hid hov
  clear hs hN hov
  go_enter Try.func56, Try.ntmps56
  go_wp2_with fail
  go_region_held3 (fun w' => w'.cell? ⟨w.heap.size, 0, none⟩ = some (.int .i64 (hi a)) ∧ w'.cell? ⟨w.heap.size, 1, none⟩ = some (.int .u64 (lo a)) ∧ w'.cell? ⟨w.heap.size + 1, 0, none⟩ = some (.int .i64 (hi b)) ∧ w'.cell? ⟨w.heap.size + 1, 1, none⟩ = some (.int .u64 (lo b))) (first | go_keep | exact ((HAW3.out.set (by have := HAW1.out.2.2.1.lt; have := HAW2.out.2.2.1.lt; simp; try omega) _).set (by have := HAW1.out.2.2.1.lt; have := HAW2.out.2.2.1.lt; simp; try omega) _).cells)
    (first
      | (go_at_call 61; refine (HA.out _).mono ?_; rintro e w1 ⟨rfl, hb1⟩; have HAW1 := Lib.hid (show AW w w1 a b by first | exact HAW.out.dr.bel hb1 | exact (HAW.out.dr.al _).bel hb1); obtain ⟨k10, k11, k12, k13⟩ := HAW1.out.cells; (first | (have hq6 := hq6.below hb1 hq6.lt; have z60 := hq6.cell 0; have z61 := hq6.cell 1; have g60 := hq6.frozen 0; have g61 := hq6.frozen 1; simp at z60 z61 g60 g61) | (have hq6 := (Blk.new _ 96 #[.int .u64 0, .int .u64 0]).below hb1 (by simp); have z60 := hq6.cell 0; have z61 := hq6.cell 1; have g60 := hq6.frozen 0; have g61 := hq6.frozen 1; simp at z60 z61 g60 g61) | (have hq6 := (Blk.new _ 96 #[.int .u64 0, .int .u64 0]).drew.below hb1 (by simp); have z60 := hq6.cell 0; have z61 := hq6.cell 1; have g60 := hq6.frozen 0; have g61 := hq6.frozen 1; simp at z60 z61 g60 g61) | skip))
      | (go_at_call 61; refine (HB.out _).mono ?_; rintro e w2 ⟨rfl, hb2⟩; have HAW2 := Lib.hid (show AW w w2 a b by first | exact HAW1.out.bel hb2 | exact (HAW1.out.al _).bel hb2); obtain ⟨k20, k21, k22, k23⟩ := HAW2.out.cells; (first | (have hq6 := hq6.below hb2 hq6.lt; have z60 := hq6.cell 0; have z61 := hq6.cell 1; have g60 := hq6.frozen 0; have g61 := hq6.frozen 1; simp at z60 z61 g60 g61) | (have hq6 := (Blk.new _ 96 #[.int .u64 0, .int .u64 0]).below hb2 (by simp); have z60 := hq6.cell 0; have z61 := hq6.cell 1; have g60 := hq6.frozen 0; have g61 := hq6.frozen 1; simp at z60 z61 g60 g61) | (have hq6 := (Blk.new _ 96 #[.int .u64 0, .int .u64 0]).drew.below hb2 (by simp); have z60 := hq6.cell 0; have z61 := hq6.cell 1; have g60 := hq6.frozen 0; have g61 := hq6.frozen 1; simp at z60 z61 g60 g61) | skip))
      | (go_at_call 69; refine (HL.out _).mono ?_; rintro e w3 ⟨rfl, hb3⟩; have HAW3 := Lib.hid (show AW w w3 a b by first | exact HAW2.out.bel hb3 | exact (HAW2.out.al _).bel hb3); obtain ⟨k30, k31, k32, k33⟩ := HAW3.out.cells; (first | (have hq6 := hq6.below hb3 hq6.lt; have z60 := hq6.cell 0; have z61 := hq6.cell 1; have g60 := hq6.frozen 0; have g61 := hq6.frozen 1; simp at z60 z61 g60 g61) | (have hq6 := (Blk.new _ 96 #[.int .u64 0, .int .u64 0]).below hb3 (by simp); have z60 := hq6.cell 0; have z61 := hq6.cell 1; have g60 := hq6.frozen 0; have g61 := hq6.frozen 1; simp at z60 z61 g60 g61) | (have hq6 := (Blk.new _ 96 #[.int .u64 0, .int .u64 0]).drew.below hb3 (by simp); have z60 := hq6.cell 0; have z61 := hq6.cell 1; have g60 := hq6.frozen 0; have g61 := hq6.frozen 1; simp at z60 z61 g60 g61) | skip)))
  all_goals go_wp2_with fail
  all_goals
    refine (HF.out _).mono ?_
    rintro e w4 ⟨rfl, hb4⟩
    have HAW4 := Lib.hid (show AW w w4 a b by first | exact (HAW3.out.al _).bel hb4 | exact ((HAW3.out.set (by have := HAW1.out.2.2.1.lt; have := HAW2.out.2.2.1.lt; simp; try omega) _).set (by have := HAW1.out.2.2.1.lt; have := HAW2.out.2.2.1.lt; simp; try omega) _).bel hb4)
    obtain ⟨k40, k41, k42, k43⟩ := HAW4.out.cells
    have c20 := HAW4.out.2.2.1.cell 0
    have c21 := HAW4.out.2.2.1.cell 1
    have f20 := HAW4.out.2.2.1.frozen 0
    have f21 := HAW4.out.2.2.1.frozen 1
    have hlt := HAW4.out.2.2.1.lt
    have hl0 : w.heap.size < w4.heap.size := by omega
    have hl1 : w.heap.size + 1 < w4.heap.size := by omega
    simp at c20 c21
    clear HAW HAW1 HAW2 HAW3 HA HB HL HF hb1 hb2 hb3 hb4 k10 k11 k12 k13 k20 k21 k22 k23 k30 k31 k32 k33
    try clear z60 z61 g60 g61
    have HB4 := Lib.hid HAW4.out.2.2.2
    clear HAW4
    by_cases h1 : sa = sb
    · subst h1
      by_cases h2 : ss = sa
      · subst h2
        have ho : ov = false := by rw [← HOV.out]; simp
        subst ho
        go_wp2
        have HB5 := HB4.out
        refine bodyPost_ret (v := ?_) (by simp [results, Try.results56, go_sem, *]; rfl) rfl ⟨rfl, (by repeat (first | exact Below.refl _ _ | assumption | refine below_al ?_ _ | refine below_dr ?_ | refine below_drN ?_ _ | refine below_set ?_ (by simp; try omega) _ | (refine below_to ?_ (by assumption))))⟩
      · have ho : ov = true := by rw [← HOV.out]; simp [h2]
        subst ho
        go_wp2
        have HB5 := HB4.out
        refine bodyPost_ret (v := ?_) (by simp [results, Try.results56, go_sem, *]; rfl) rfl ⟨rfl, (by repeat (first | exact Below.refl _ _ | assumption | refine below_al ?_ _ | refine below_dr ?_ | refine below_drN ?_ _ | refine below_set ?_ (by simp; try omega) _ | (refine below_to ?_ (by assumption))))⟩
    · have ho : ov = false := by rw [← HOV.out]; simp [h1]
      subst ho
      go_wp2
      have HB5 := HB4.out
      refine bodyPost_ret (v := ?_) (by simp [results, Try.results56, go_sem, *]; rfl) rfl ⟨rfl, (by repeat (first | exact Below.refl _ _ | assumption | refine below_al ?_ _ | refine below_dr ?_ | refine below_drN ?_ _ | refine below_set ?_ (by simp; try omega) _ | (refine below_to ?_ (by assumption))))⟩
end Go.Proofs.Ytdfkghpgekmmlaa

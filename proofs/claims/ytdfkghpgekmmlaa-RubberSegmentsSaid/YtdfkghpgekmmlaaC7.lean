/- limb.Div: the loop of 128 rounds; the whole. -/
import Derived.Test.YtdfkghpgekmmlaaC6
namespace Go.Proofs.Ytdfkghpgekmmlaa
open Go.RowKit
set_option linter.unusedVariables false
set_option linter.unusedSimpArgs false

theorem or_one' (x : Int) (h0 : 0 ≤ x) (h1 : x < 18446744073709551616) (h2 : x % 2 = 0) : bits .or .u64 x 1 = x + 1 := or_bit x 1 h0 h1 h2 (by omega) (by omega)
theorem cmp_ge {a b : Int} (h : b ≤ a) : 0 ≤ cmp3 a b := by unfold cmp3; (repeat' split) <;> omega
theorem cmp_lt {a b : Int} (h : a < b) : cmp3 a b = -1 := by unfold cmp3; rw [if_neg (by omega), if_pos h]

set_option maxHeartbeats 8000000 in
set_option maxRecDepth 100000 in
theorem ldiv_long (h l d : Int) (hh : InM h) (lM : InM l) (dM : InM d) (hd : h < d) (hd1 : 18446744073709551616 ≤ d) (w : World) :
    Calls Try.prog 60 #[.agg #[.int .u64 (hi (h)), .int .u64 (lo (h))], .agg #[.int .u64 (hi (l)), .int .u64 (lo (l))], .agg #[.int .u64 (hi (d)), .int .u64 (lo (d))]] w fun e w' => e = .returned (.tuple #[.agg #[.int .u64 (hi ((h * 340282366920938463463374607431768211456 + l) / d)), .int .u64 (lo ((h * 340282366920938463463374607431768211456 + l) / d))], .agg #[.int .u64 (hi ((h * 340282366920938463463374607431768211456 + l) % d)), .int .u64 (lo ((h * 340282366920938463463374607431768211456 + l) % d))], .bool true]) ∧ Below w.heap.size w w' := by
  have HDW := Lib.hid (DW.mk w h l d)
  have HC := Lib.hid (lcmp_any h d hh dM)
  rw [cmp_lt hd] at HC
  have h0 := hh.1
  have l0 := lM.1
  have hdz : (hi d == 0) = false := by rw [beq_eq_false_iff_ne]; unfold hi; omega
  obtain ⟨T, hT⟩ : ∃ T, T = h * 340282366920938463463374607431768211456 + l := ⟨_, rfl⟩
  have hDI : DI T d 0 l 0 h := ⟨by rw [hT]; simp, hh.1, hd, lM, by omega, by simp⟩
  have HT0 := Lib.hid (show 0 ≤ T by omega)
  rw [← hT]
  have HI := Lib.hid hDI
  have HDM := Lib.hid dM
  clear hT hDI hh lM dM hd hd1 h0 l0
  go_enter Try.func60, Try.ntmps60
  go_wp2_with fail
  refine (HC.out _).mono ?_
  rintro e w1 ⟨rfl, hb1⟩
  have HD1 := Lib.hid (HDW.out.bel hb1)
  obtain ⟨c00, c01, c10, c11, c20, c21, c30, c31, c40, c41⟩ := HD1.out.cells
  obtain ⟨f10, f11, f30, f31, f40, f41⟩ := HD1.out.frees
  have HD2 := Lib.hid (HD1.out.setR h)
  clear hb1 HDW HC c10 c11 c30 c31 f10 f11 f30 f31
  go_wp2_with fail
  obtain ⟨w2, hw2⟩ : ∃ w2, w2 = ((w1.setCell ⟨w.heap.size + 1 + 1 + 1 + 1, 0, none⟩ (.int .u64 (hi h))).setCell ⟨w.heap.size + 1 + 1 + 1 + 1, 1, none⟩ (.int .u64 (lo h))) := ⟨_, rfl⟩
  rw [← hw2] at HD2 ⊢
  clear hw2 HD1 c00 c01 c20 c21 c40 c41 f40 f41
  go_loopw [30] (fun c wr => ∃ (k : Nat) (l q r : Int), k ≤ 128 ∧ c = .int .i64 k ∧ Hid (DW w wr h l d q r) ∧ Hid (DI T d k l q r)) (fun c _ => 128 - (intOf c).toNat)
  case atStart => exact ⟨0, l, 0, h, by omega, rfl, HD2, HI⟩
  case round =>
    clear HD2 HI
    obtain ⟨k, l, q, r, hk, rfl, HD, HI⟩ := hrel
    by_cases hlt : k < 128
    · have i1 : (k : Int) < 128 := by omega
      have i2 : IntKind.i64.wrap ((k : Int) + 1) = (k : Int) + 1 := IntWalk.i64_in _ (by omega)
      have hlM := HI.out.2.2.2.1
      have hrM : InM r := ⟨HI.out.2.1, by have := HI.out.2.2.1; have := HDM.out.2; omega⟩
      have hqq := HI.out.qle (by omega)
      have hqM : InM q := ⟨HI.out.2.2.2.2.1, by have := HI.out.2.2.2.2.1; omega⟩
      have hhl := inM_hi hlM
      have hbit : 0 ≤ hi l / 9223372036854775808 ∧ hi l / 9223372036854775808 ≤ 1 := by omega
      obtain ⟨bit, hb⟩ : ∃ b, b = hi l / 9223372036854775808 := ⟨_, rfl⟩
      rw [← hb] at hbit
      have hrd := HI.out.2.2.1
      have hr0 := HI.out.2.1
      have HC1 := Lib.hid (ldouble_any r bit hrM hbit.1 hbit.2)
      have HC2 := Lib.hid (ldouble_any l 0 hlM (by omega) (by omega))
      have HC3 := Lib.hid (ldouble_any q 0 hqM (by omega) (by omega))
      have e2q : (2 * q + 0) % 340282366920938463463374607431768211456 = 2 * q := by have := hqM.1; omega
      rw [e2q] at HC3
      obtain ⟨r1, hr1⟩ : ∃ r1, r1 = (2 * r + bit) % 340282366920938463463374607431768211456 := ⟨_, rfl⟩
      obtain ⟨l1, hl1⟩ : ∃ l1, l1 = (2 * l + 0) % 340282366920938463463374607431768211456 := ⟨_, rfl⟩
      rw [← hr1] at HC1
      rw [← hl1] at HC2
      obtain ⟨ov, hov⟩ : ∃ ov, ov = decide (340282366920938463463374607431768211456 ≤ 2 * r + bit) := ⟨_, rfl⟩
      rw [← hov] at HC1
      have hr1M : InM r1 := by rw [hr1]; exact mod_in _
      have HC4 := Lib.hid (lcmp_any r1 d hr1M HDM.out)
      have HC5 := Lib.hid (lsub_any r1 d hr1M HDM.out)
      have hdd := HDM.out
      have hcase : (ov = false ∧ r1 < d ∧ DI T d (k + 1) l1 (2 * q) r1) ∨ ((ov = true ∨ (ov = false ∧ d ≤ r1)) ∧ DI T d (k + 1) l1 (2 * q + 1) ((r1 - d) % 340282366920938463463374607431768211456)) := by
        rw [hl1]
        by_cases hge : d ≤ 2 * r + bit
        · right
          have e : (r1 - d) % 340282366920938463463374607431768211456 = 2 * r + bit - d := by unfold InM at hdd hrM; omega
          refine ⟨?_, ?_⟩
          · by_cases ho : 340282366920938463463374607431768211456 ≤ 2 * r + bit
            · left; rw [hov]; exact decide_eq_true ho
            · right; exact ⟨by rw [hov]; exact decide_eq_false ho, by omega⟩
          · rw [e]
            exact HI.out.next (.inr ⟨rfl, by rw [hb]⟩) (by omega) (by omega)
        · left
          have ho : ¬ 340282366920938463463374607431768211456 ≤ 2 * r + bit := by have := hdd.2; omega
          have e : r1 = 2 * r + bit := by omega
          refine ⟨by rw [hov]; exact decide_eq_false ho, by omega, ?_⟩
          rw [e]
          exact HI.out.next (.inl ⟨rfl, by rw [hb]⟩) (by omega) (by omega)
      have HCA := Lib.hid hcase
      have HB := Lib.hid hb
      have HQM := Lib.hid hqM
      have hql : lo (2 * q) % 2 = 0 := by unfold lo; omega
      have HOR := Lib.hid (or_one' (lo (2 * q)) (lo0 _) (lo1 _) hql)
      obtain ⟨c00, c01, c10, c11, c20, c21, c30, c31, c40, c41⟩ := HD.out.cells
      clear hcase hb hlM hrM hqq hqM hhl hbit hrd hr0 e2q hr1 hl1 hov hr1M hdd c00 c01 c11 c20 c21 c30 c31 hql
      go_wp2_with fail
      rw [← HB.out]
      refine (HC1.out _).mono ?_
      rintro e w3 ⟨rfl, hb3⟩
      have HD3 := Lib.hid (HD.out.bel hb3)
      clear c10 c40 c41 hb3
      have HD4 := Lib.hid (HD3.out.setR r1)
      obtain ⟨c00, c01, c10, c11, c20, c21, c30, c31, c40, c41⟩ := HD3.out.cells
      obtain ⟨f10, f11, f30, f31, f40, f41⟩ := HD3.out.frees
      clear c00 c01 c20 c21 c30 c31 f10 f11 f30 f31
      go_wp2_with fail
      refine (HC2.out _).mono ?_
      rintro e w5 ⟨rfl, hb5⟩
      have HD5 := Lib.hid (HD4.out.bel hb5)
      have HD6 := Lib.hid (HD5.out.setL l1)
      clear hb5 c10 c11 c40 c41 f40 f41 HD3 HD4
      obtain ⟨c00, c01, c10, c11, c20, c21, c30, c31, c40, c41⟩ := HD5.out.cells
      obtain ⟨f10, f11, f30, f31, f40, f41⟩ := HD5.out.frees
      clear c00 c01 c20 c21 f30 f31 f40 f41
      go_wp2_with fail
      refine (HC3.out _).mono ?_
      rintro e w7 ⟨rfl, hb7⟩
      have HD7 := Lib.hid (HD6.out.bel hb7)
      have HD8 := Lib.hid (HD7.out.setQ (2 * q))
      clear hb7 c10 c11 c30 c31 c40 c41 f10 f11 HD5 HD6
      obtain ⟨c00, c01, c10, c11, c20, c21, c30, c31, c40, c41⟩ := HD7.out.cells
      obtain ⟨f10, f11, f30, f31, f40, f41⟩ := HD7.out.frees
      clear c00 c01 c10 c11 f10 f11 f40 f41
      rcases HCA.out with ⟨rfl, hr, hdi⟩ | ⟨hov, hdi⟩
      · have HDI := Lib.hid hdi
        clear hdi
        rw [cmp_lt hr] at HC4
        go_wp2_with fail
        refine (HC4.out _).mono ?_
        rintro e w9 ⟨rfl, hb9⟩
        have HD9 := Lib.hid (HD8.out.bel hb9)
        clear hb9
        go_wp2
        go_roundw
        case rel => exact ⟨k + 1, l1, 2 * q, r1, by omega, by rw [show ((k + 1 : Nat) : Int) = (k : Int) + 1 by omega], HD9, HDI⟩
        case measure => simp [intOf]; omega
      · have HDI := Lib.hid hdi
        clear hdi
        rcases hov with rfl | ⟨rfl, hge⟩
        · go_wp2_with fail
          clear c20 c21 c30 c31 c40 c41 f30 f31
          obtain ⟨w8, hw8⟩ : ∃ w8, w8 = ((w7.setCell ⟨w.heap.size + 1 + 1 + 1, 0, none⟩ (.int .u64 (hi (2 * q)))).setCell ⟨w.heap.size + 1 + 1 + 1, 1, none⟩ (.int .u64 (lo (2 * q)))) := ⟨_, rfl⟩
          rw [← hw8] at HD8 ⊢
          clear hw8 HD7
          obtain ⟨k00, k01, k10, k11, k20, k21, k30, k31, k40, k41⟩ := HD8.out.cells
          go_wp2_with fail
          refine (HC5.out _).mono ?_
          rintro e wB ⟨rfl, hbB⟩
          have HDB := Lib.hid (HD8.out.bel hbB)
          have HDC := Lib.hid (HDB.out.setR ((r1 - d) % 340282366920938463463374607431768211456))
          have HDD := Lib.hid (HDC.out.setQ1 (by omega))
          clear hbB k00 k01 k10 k11 k20 k21 k30 k31 k40 k41
          obtain ⟨k00, k01, k10, k11, k20, k21, k30, k31, k40, k41⟩ := HDB.out.cells
          obtain ⟨f10, f11, f30, f31, f40, f41⟩ := HDB.out.frees
          rw [← HOR.out] at HDD
          clear k00 k01 k10 k11 k20 k21 f10 f11
          go_wp2
          go_roundw
          case rel => exact ⟨k + 1, l1, 2 * q + 1, (r1 - d) % 340282366920938463463374607431768211456, by omega, by rw [show ((k + 1 : Nat) : Int) = (k : Int) + 1 by omega], HDD, HDI⟩
          case measure => simp [intOf]; omega
        · have hc0 := cmp_ge hge
          obtain ⟨cc, hcc⟩ : ∃ cc, cc = cmp3 r1 d := ⟨_, rfl⟩
          rw [← hcc] at HC4 hc0
          clear hcc
          go_wp2_with fail
          refine (HC4.out _).mono ?_
          rintro e w9 ⟨rfl, hb9⟩
          have HD9 := Lib.hid (HD8.out.bel hb9)
          clear hb9 c20 c21 c30 c31 c40 c41 f30 f31 HD7
          obtain ⟨k00, k01, k10, k11, k20, k21, k30, k31, k40, k41⟩ := HD9.out.cells
          go_wp2_with fail
          refine (HC5.out _).mono ?_
          rintro e wB ⟨rfl, hbB⟩
          have HDB := Lib.hid (HD9.out.bel hbB)
          have HDC := Lib.hid (HDB.out.setR ((r1 - d) % 340282366920938463463374607431768211456))
          have HDD := Lib.hid (HDC.out.setQ1 (by omega))
          clear hbB k00 k01 k10 k11 k20 k21 k30 k31 k40 k41
          obtain ⟨k00, k01, k10, k11, k20, k21, k30, k31, k40, k41⟩ := HDB.out.cells
          obtain ⟨f10, f11, f30, f31, f40, f41⟩ := HDB.out.frees
          rw [← HOR.out] at HDD
          clear k00 k01 k10 k11 k20 k21 f10 f11
          go_wp2
          go_roundw
          case rel => exact ⟨k + 1, l1, 2 * q + 1, (r1 - d) % 340282366920938463463374607431768211456, by omega, by rw [show ((k + 1 : Nat) : Int) = (k : Int) + 1 by omega], HDD, HDI⟩
          case measure => simp [intOf]; omega
    · obtain rfl : k = 128 := by omega
      obtain ⟨eq, er⟩ := HI.out.end_ HT0.out
      have HE := Lib.hid eq
      have HE2 := Lib.hid er
      clear eq er
      obtain ⟨c00, c01, c10, c11, c20, c21, c30, c31, c40, c41⟩ := HD.out.cells
      obtain ⟨f10, f11, f30, f31, f40, f41⟩ := HD.out.frees
      clear c00 c01 c10 c11 c20 c21 f10 f11
      go_wp2_with fail
      go_region
      have HB := HD.out.2.2.2.2.2
      go_wp2
      refine bodyPost_ret (v := ?_) (by simp [results, Try.results60, go_sem, *]; rfl) rfl ⟨by rw [HE.out, HE2.out], (by repeat (first | exact Below.refl _ _ | assumption | refine below_al ?_ _ | refine below_dr ?_ | refine below_drN ?_ _ | refine below_set ?_ (by simp; try omega) _ | (refine below_to ?_ (by assumption))))⟩
end Go.Proofs.Ytdfkghpgekmmlaa

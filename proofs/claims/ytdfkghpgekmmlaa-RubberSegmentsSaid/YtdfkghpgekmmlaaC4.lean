/- Go's library: LeadingZeros64, Div64 (Knuth's division by two words). -/
import Derived.Test.YtdfkghpgekmmlaaC1
import Derived.Test.YtdfkghpgekmmlaaK1
import Derived.Shelf.Small.Bits
import Derived.Lib.ItoaNum
namespace Go.Proofs.Ytdfkghpgekmmlaa
open Go.RowKit
set_option linter.unusedVariables false
set_option linter.unusedSimpArgs false

def lz_ren : Go.Shelf.Ren := ⟨fun | 134 => 78 | 129 => 79 | n => n, fun | 3 => 3 | 4 => 4 | 5 => 5 | 9 => 9 | 53 => 37 | 46 => 92 | n => n, fun n => n⟩
theorem lz_lays : Lays.n134 Try.prog lz_ren := { mixed := by kernel_rfl, f134 := Try.func78.trans (congrArg some (by kernel_rfl)), f129 := Try.func79.trans (congrArg some (by kernel_rfl)), t53 := Try.underlying37, a53 := Try.isAgg37, z53 := Try.sizeOf37, v53 := Try.zeroValue37, t46 := Try.underlying92, a46 := Try.isAgg92, z46 := Try.sizeOf92, v46 := Try.zeroValue92, t3 := Try.underlying3, a3 := Try.isAgg3, z3 := Try.sizeOf3, v3 := Try.zeroValue3, t4 := Try.underlying4, a4 := Try.isAgg4, z4 := Try.sizeOf4, v4 := Try.zeroValue4, t5 := Try.underlying5, a5 := Try.isAgg5, z5 := Try.sizeOf5, v5 := Try.zeroValue5, t9 := Try.underlying9, a9 := Try.isAgg9, z9 := Try.sizeOf9, v9 := Try.zeroValue9 }

/-- how far a word is moved to the left -/
theorem lead {y : Int} (h0 : 0 < y) (h1 : y < 18446744073709551616) : ∃ s : Nat, s ≤ 63 ∧ (64 : Int) - (Lib.bitLen y.toNat : Int) = (s : Int) ∧ 9223372036854775808 ≤ y * 2 ^ s ∧ y * 2 ^ s < 18446744073709551616 ∧ (2 : Int) ^ s * 2 ^ (64 - s) = 18446744073709551616 ∧ (1 : Int) ≤ 2 ^ s := by
  obtain ⟨n, rfl⟩ := Int.eq_ofNat_of_zero_le (Int.le_of_lt h0)
  obtain ⟨b1, b2, b3⟩ := Lib.bitLenAux_bounds 64 n (by omega) (by omega)
  have b4 : Lib.bitLenAux 64 n ≤ 64 := Lib.bitLenAux_le 64 n 64 (by omega)
  change 1 ≤ Lib.bitLen n at b1
  change 2 ^ (Lib.bitLen n - 1) ≤ n at b2
  change n < 2 ^ Lib.bitLen n at b3
  change Lib.bitLen n ≤ 64 at b4
  rw [show ((n : Int)).toNat = n by simp]
  generalize Lib.bitLen n = L at *
  have e1 : (2 : Nat) ^ (L - 1) * 2 ^ (64 - L) = 2 ^ 63 := by rw [← Nat.pow_add]; congr 1; omega
  have e2 : (2 : Nat) ^ L * 2 ^ (64 - L) = 2 ^ 64 := by rw [← Nat.pow_add]; congr 1; omega
  have p : 0 < (2 : Nat) ^ (64 - L) := Nat.pow_pos (by omega)
  have c1 : 2 ^ (L - 1) * 2 ^ (64 - L) ≤ n * 2 ^ (64 - L) := Nat.mul_le_mul_right _ b2
  have c2 : n * 2 ^ (64 - L) < 2 ^ L * 2 ^ (64 - L) := Nat.mul_lt_mul_of_pos_right b3 p
  have e3 : (2 : Nat) ^ (64 - L) * 2 ^ (64 - (64 - L)) = 2 ^ 64 := by rw [← Nat.pow_add]; congr 1; omega
  refine ⟨64 - L, by omega, by omega, ?_, ?_, ?_, ?_⟩
  · have : ((9223372036854775808 : Nat) : Int) ≤ ((n * 2 ^ (64 - L) : Nat) : Int) := Int.ofNat_le.2 (by rw [e1] at c1; exact c1)
    simpa using this
  · have : ((n * 2 ^ (64 - L) : Nat) : Int) < ((18446744073709551616 : Nat) : Int) := Int.ofNat_lt.2 (by rw [e2] at c2; exact c2)
    simpa using this
  · have : (((2 : Nat) ^ (64 - L) * 2 ^ (64 - (64 - L)) : Nat) : Int) = ((18446744073709551616 : Nat) : Int) := by rw [e3]
    simpa using this
  · have : ((1 : Nat) : Int) ≤ (((2 : Nat) ^ (64 - L) : Nat) : Int) := Int.ofNat_le.2 p
    simpa using this

theorem and_low (x : Int) (h0 : 0 ≤ x) (h1 : x < 18446744073709551616) : bits .and .u64 x 4294967295 = x % 4294967296 := by
  obtain ⟨n, rfl⟩ := Int.eq_ofNat_of_zero_le h0
  have h := bits_and_u64_nat n 4294967295 (by omega) (by omega)
  have e : n &&& 4294967295 = n % 4294967296 := Nat.and_two_pow_sub_one_eq_mod n 32
  rw [e] at h
  simpa using h
theorem or_high (x y : Int) (s : Nat) (h0 : 0 ≤ x) (h1 : x < 18446744073709551616) (h2 : x % 2 ^ s = 0) (y0 : 0 ≤ y) (y1 : y < 2 ^ s) (y2 : y < 18446744073709551616) : bits .or .u64 x y = x + y :=
  bits_join .u64 64 (by decide) wraps_u64 s x y h0 h2 h1 y0 y1 y2

set_option maxHeartbeats 2000000 in
set_option maxRecDepth 100000 in
theorem div64_any (h l y : Int) (h0 : 0 ≤ h) (hy : h < y) (hy1 : y < 18446744073709551616) (l0 : 0 ≤ l) (l1 : l < 18446744073709551616) (w : World) :
    Calls Try.prog 77 #[.int .u64 h, .int .u64 l, .int .u64 y] w fun e w' => e = .returned (.tuple #[.int .u64 ((h * 18446744073709551616 + l) / y), .int .u64 ((h * 18446744073709551616 + l) % y)]) ∧ Below w.heap.size w w' := by
  by_cases hh : h = 0
  · subst hh
    have q1 : Int.tdiv l y = l / y := Int.tdiv_eq_ediv_of_nonneg l0
    have q2 : Int.tmod l y = l % y := Int.tmod_eq_emod_of_nonneg l0
    have y0 : y ≠ 0 := by omega
    have y1 : ¬ y ≤ 0 := by omega
    have w0 : IntKind.u64.wrap (l / y) = l / y := by
      rw [IntKind.wrap_u64]
      have a1 : 0 ≤ l / y := Int.ediv_nonneg l0 (by omega)
      have a2 : l / y ≤ l := Int.ediv_le_self _ l0
      omega
    go_enter Try.func77, Try.ntmps77
    go_wp2_with fail
    go_region
    go_wp2
    go_ret2
    exact ⟨by simp, (by repeat (first | exact Below.refl _ _ | assumption | refine below_al ?_ _ | refine below_dr ?_ | refine below_drN ?_ _ | refine below_set ?_ (by simp; try omega) _ | (refine below_to ?_ (by assumption))))⟩
  have hz := Any.bits_LeadingZeros64 lz_lays y w (by omega) (by omega)
  change Calls Try.prog 78 _ _ _ at hz
  obtain ⟨s, hs, e0, hY0, hY1, hKM, hK⟩ := lead (y := y) (by omega) hy1
  rw [e0] at hz
  have HZ := Lib.hid hz
  obtain ⟨a0, a1, a2, a3, a4, a5, a6, a7⟩ := shifted hK hKM h0 hy l0 l1
  have hhk : 0 ≤ h * 2 ^ s ∧ h * 2 ^ s < 18446744073709551616 := ⟨Int.mul_nonneg h0 (by omega), by omega⟩
  obtain ⟨Y, e1⟩ : ∃ Y, IntKind.u64.wrap (y * 2 ^ s) = Y := ⟨_, rfl⟩
  obtain ⟨y1, e2⟩ : ∃ y1, Y / 4294967296 = y1 := ⟨_, rfl⟩
  obtain ⟨y0, e3⟩ : ∃ y0, bits .and .u64 Y 4294967295 = y0 := ⟨_, rfl⟩
  obtain ⟨HK, e4⟩ : ∃ HK, IntKind.u64.wrap (h * 2 ^ s) = HK := ⟨_, rfl⟩
  obtain ⟨LM, e5⟩ : ∃ LM, l / 2 ^ (64 - s) = LM := ⟨_, rfl⟩
  obtain ⟨U, e6⟩ : ∃ U, bits .or .u64 HK LM = U := ⟨_, rfl⟩
  obtain ⟨L, e7⟩ : ∃ L, IntKind.u64.wrap (l * 2 ^ s) = L := ⟨_, rfl⟩
  obtain ⟨u1, e8⟩ : ∃ u1, L / 4294967296 = u1 := ⟨_, rfl⟩
  obtain ⟨u0, e9⟩ : ∃ u0, bits .and .u64 L 4294967295 = u0 := ⟨_, rfl⟩
  have f1 : Y = y * 2 ^ s := by rw [← e1, IntKind.wrap_u64]; omega
  have f3 : y0 = Y % 4294967296 := by rw [← e3, and_low Y (by omega) (by omega)]
  have f4 : HK = h * 2 ^ s := by rw [← e4, IntKind.wrap_u64]; omega
  have f6 : U = h * 2 ^ s + l / 2 ^ (64 - s) := by rw [← e6, f4, ← e5, or_high _ _ s hhk.1 hhk.2 (Int.mul_emod_left _ _) a6 a7 (by omega)]
  have f7 : L = l % 2 ^ (64 - s) * 2 ^ s := by rw [← e7, IntKind.wrap_u64, a5]
  have f9 : u0 = L % 4294967296 := by rw [← e9, and_low L (by omega) (by omega)]
  have hKS : KS U u1 Y y1 y0 := ⟨by omega, by omega, by omega, by omega, by omega, by omega, by omega, by omega, by omega⟩
  have HN := Lib.hid (show (h * 18446744073709551616 + l) * 2 ^ s = U * 18446744073709551616 + L by rw [f6, f7]; exact a2)
  have HL := Lib.hid (show L = u1 * 4294967296 + u0 by omega)
  have HY := Lib.hid f1
  have HK1 := Lib.hid hK
  have hu0 : 0 ≤ u0 ∧ u0 < 4294967296 := by omega
  obtain ⟨g1, g2, g3, g4, g5, g6⟩ := hKS.first
  obtain ⟨q, e10⟩ : ∃ q, U / y1 = q := ⟨_, rfl⟩
  obtain ⟨r, hr⟩ : ∃ r, r = U % y1 := ⟨_, rfl⟩
  rw [e10, ← hr] at g4
  rw [← hr] at g5 g6
  rw [e10] at g1 g2 g3
  have b1 := hKS.y11
  have b0 := hKS.U0
  have bu := hKS.U1
  have bY := hKS.hY
  have by10 := hKS.y10
  have ew : IntKind.u64.wrap q = q := by rw [IntKind.wrap_u64]; omega
  have e11 : IntKind.u64.wrap (q * y1) = q * y1 := by rw [IntKind.wrap_u64]; have : 0 ≤ q * y1 := Int.mul_nonneg g3 (by omega); omega
  have e12 : IntKind.u64.wrap (U - q * y1) = r := by rw [IntKind.wrap_u64]; omega
  have y1z : y1 ≠ 0 := by omega
  have KI1 := Lib.hid (show KI U u1 Y y1 q r from ⟨g4, g5, by omega, g1, g3, g2⟩)
  have KS1 := Lib.hid hKS
  have HU0 := Lib.hid hu0
  have yz : y ≠ 0 := by omega
  have yh : ¬ y ≤ h := by omega
  have tq : Int.tdiv U y1 = U / y1 := Int.tdiv_eq_ediv_of_nonneg b0
  have HEY := Lib.hid (show 0 ≤ y ∧ 0 < y by omega)
  clear hz e0 hY0 hY1 hKM hK a0 a1 a2 a3 a4 a5 a6 a7 hhk f1 f3 f4 f6 f7 f9 hKS hu0 g1 g2 g3 g4 g5 g6 hr b1 b0 bu bY by10
  go_enter Try.func77, Try.ntmps77
  go_wp2_with fail
  refine HZ.out.mono ?_
  rintro e w1 ⟨rfl, rfl⟩
  go_wp2_with fail
  go_loopw [15, 16] (fun a b wr => ∃ q r : Int, a = .int .u64 q ∧ b = .int .u64 r ∧ Hid (KI U u1 Y y1 q r) ∧ w1 = wr) (fun a _ _ => (intOf a).toNat)
  case atStart => exact ⟨q, r, rfl, rfl, KI1, rfl⟩
  case round =>
    obtain ⟨qa, r, rfl, rfl, hki, rfl⟩ := hrel
    obtain ⟨i1, i2, i3, i4, i5, i6⟩ := hki.out
    have b10 := KS1.out.y10
    have b11 := KS1.out.y11
    have b00 := KS1.out.y00
    have b01 := KS1.out.y01
    have bu0 := KS1.out.u0
    have bu1 := KS1.out.u1
    have w1' : IntKind.u64.wrap (4294967296 * r) = 4294967296 * r := by rw [IntKind.wrap_u64]; omega
    have w2' : IntKind.u64.wrap (4294967296 * r + u1) = 4294967296 * r + u1 := by rw [IntKind.wrap_u64]; omega
    by_cases hqB : 4294967296 ≤ qa
    · have hQ' := KS1.out.step1 hqB
      have hqp := KS1.out.nonneg
      have hq1 : 1 ≤ qa := by omega
      have w4 : IntKind.u64.wrap (r + y1) = r + y1 := by rw [IntKind.wrap_u64]; omega
      by_cases hbr : 4294967296 ≤ r + y1
      · have hq_ := KS1.out.exit2 (q := qa - 1) (r := r + y1) (by rw [Int.sub_mul]; omega) hbr (by omega) hQ'
        obtain ⟨qa', hq'⟩ : ∃ q', q' = qa - 1 := ⟨_, rfl⟩
        have w3 : IntKind.u64.wrap (qa - 1) = qa' := by rw [hq', IntKind.wrap_u64]; omega
        rw [← hq'] at hq_
        have hq := Lib.hid hq_
        clear hq_ hq' i1 i2 i3 i4 i5 i6 hQ' b10 b11 b00 b01 bu0 bu1 hqp
        have hr1 := KS1.out.rest
        rw [← hq.out] at hr1
        have hn1 := KS1.out.nonneg
        rw [← hq.out] at hn1
        have HQ1 := Lib.hid hn1
        have hYlt : Y < 18446744073709551616 := by have := KS1.out.hY; have := KS1.out.y11; have := KS1.out.y01; omega
        obtain ⟨UB, e13⟩ : ∃ x, IntKind.u64.wrap (U * 4294967296) = x := ⟨_, rfl⟩
        obtain ⟨UB1, e14⟩ : ∃ x, IntKind.u64.wrap (UB + u1) = x := ⟨_, rfl⟩
        obtain ⟨qY, e15⟩ : ∃ x, IntKind.u64.wrap (qa' * Y) = x := ⟨_, rfl⟩
        obtain ⟨R1, e16⟩ : ∃ x, IntKind.u64.wrap (UB1 - qY) = x := ⟨_, rfl⟩
        have hR1 : R1 = U * 4294967296 + u1 - qa' * Y := by
          rw [IntKind.wrap_u64] at e13 e14 e15 e16
          omega
        have HR1 := Lib.hid hR1
        obtain ⟨KS2', _⟩ := KS1.out.two HU0.out.1 HU0.out.2
        rw [← hq.out, ← hR1] at KS2'
        have HR1b := Lib.hid (show 0 ≤ R1 ∧ R1 < Y by rw [hR1]; exact hr1)
        obtain ⟨g1, g2, g3, g4, g5, g6⟩ := KS2'.first
        obtain ⟨q0, e17⟩ : ∃ q, R1 / y1 = q := ⟨_, rfl⟩
        obtain ⟨r0, hr⟩ : ∃ r, r = R1 % y1 := ⟨_, rfl⟩
        rw [e17, ← hr] at g4
        rw [← hr] at g5 g6
        rw [e17] at g1 g2 g3
        have b1 := KS2'.y11
        have b0 := KS2'.U0
        have bu := KS2'.U1
        have e18 : IntKind.u64.wrap (q0 * y1) = q0 * y1 := by rw [IntKind.wrap_u64]; have : 0 ≤ q0 * y1 := Int.mul_nonneg g3 (by omega); omega
        have e19 : IntKind.u64.wrap (R1 - q0 * y1) = r0 := by rw [IntKind.wrap_u64]; omega
        have e20 : IntKind.u64.wrap q0 = q0 := by rw [IntKind.wrap_u64]; omega
        have tq2 : Int.tdiv R1 y1 = R1 / y1 := Int.tdiv_eq_ediv_of_nonneg b0
        have KI2 := Lib.hid (show KI R1 u0 Y y1 q0 r0 from ⟨g4, g5, by omega, g1, g3, g2⟩)
        have KS2 := Lib.hid KS2'
        clear hr1 hn1 hYlt hR1 KS2' g1 g2 g3 g4 g5 g6 hr b1 b0 bu
        go_wp2_with fail
        go_loopw [18, 16] (fun a b wr => ∃ q r : Int, a = .int .u64 q ∧ b = .int .u64 r ∧ Hid (KI R1 u0 Y y1 q r) ∧ w1 = wr) (fun a _ _ => (intOf a).toNat)
        case atStart => exact ⟨q0, r0, rfl, rfl, KI2, rfl⟩
        case round =>
          obtain ⟨qb, r, rfl, rfl, hki, rfl⟩ := hrel
          obtain ⟨i1, i2, i3, i4, i5, i6⟩ := hki.out
          have b10 := KS2.out.y10
          have b11 := KS2.out.y11
          have b00 := KS2.out.y00
          have b01 := KS2.out.y01
          have bu0 := KS2.out.u0
          have bu1 := KS2.out.u1
          have w1' : IntKind.u64.wrap (4294967296 * r) = 4294967296 * r := by rw [IntKind.wrap_u64]; omega
          have w2' : IntKind.u64.wrap (4294967296 * r + u0) = 4294967296 * r + u0 := by rw [IntKind.wrap_u64]; omega
          by_cases hqB : 4294967296 ≤ qb
          · have hQ' := KS2.out.step1 hqB
            have hqp := KS2.out.nonneg
            have hq1 : 1 ≤ qb := by omega
            have w4 : IntKind.u64.wrap (r + y1) = r + y1 := by rw [IntKind.wrap_u64]; omega
            by_cases hbr : 4294967296 ≤ r + y1
            · have hq_ := KS2.out.exit2 (q := qb - 1) (r := r + y1) (by rw [Int.sub_mul]; omega) hbr (by omega) hQ'
              obtain ⟨qb', hq'⟩ : ∃ q', q' = qb - 1 := ⟨_, rfl⟩
              have w3 : IntKind.u64.wrap (qb - 1) = qb' := by rw [hq', IntKind.wrap_u64]; omega
              rw [← hq'] at hq_
              have hq := Lib.hid hq_
              clear hq_ hq' i1 i2 i3 i4 i5 i6 hQ' b10 b11 b00 b01 bu0 bu1 hqp
              have hn2 := KS2.out.nonneg
              rw [← hq.out] at hn2
              have hn1 := HQ1.out
              have hr2 := KS2.out.rest
              rw [← hq.out] at hr2
              have hYlt : Y < 18446744073709551616 := by have := KS2.out.hY; have := KS2.out.y11; have := KS2.out.y01; omega
              obtain ⟨RB, e21⟩ : ∃ x, IntKind.u64.wrap (R1 * 4294967296) = x := ⟨_, rfl⟩
              obtain ⟨RB1, e22⟩ : ∃ x, IntKind.u64.wrap (RB + u0) = x := ⟨_, rfl⟩
              obtain ⟨qY2, e23⟩ : ∃ x, IntKind.u64.wrap (qb' * Y) = x := ⟨_, rfl⟩
              obtain ⟨R0, e24⟩ : ∃ x, IntKind.u64.wrap (RB1 - qY2) = x := ⟨_, rfl⟩
              have hR0 : R0 = R1 * 4294967296 + u0 - qb' * Y := by
                rw [IntKind.wrap_u64] at e21 e22 e23 e24
                omega
              have e25 : IntKind.u64.wrap (qa' * 4294967296) = qa' * 4294967296 := by rw [IntKind.wrap_u64]; omega
              have e26 : IntKind.u64.wrap (qa' * 4294967296 + qb') = qa' * 4294967296 + qb' := by rw [IntKind.wrap_u64]; omega
              have hfin := Lib.hid (knuth_end HK1.out HEY.out.2 HY.out HN.out HL.out HR1.out hR0 (by omega) (by omega))
              clear hn2 hn1 hr2 hYlt hR0
              go_wp2
              go_ret2
              rw [hfin.out.1, hfin.out.2]
              exact ⟨rfl, (by repeat (first | exact Below.refl _ _ | assumption | refine below_al ?_ _ | refine below_dr ?_ | refine below_drN ?_ _ | refine below_set ?_ (by simp; try omega) _ | (refine below_to ?_ (by assumption))))⟩
            · have hin : KI R1 u0 Y y1 (qb - 1) (r + y1) := ⟨by rw [Int.sub_mul]; omega, by omega, by omega, hQ', by omega, by omega⟩
              have HIN := Lib.hid hin
              have w3 : IntKind.u64.wrap (qb - 1) = qb - 1 := by rw [IntKind.wrap_u64]; omega
              clear hin i1 i2 i3 i4 i5 i6 hQ' b10 b11 b00 b01 bu0 bu1 hqp
              go_wp2
              go_roundw
              case rel => exact ⟨qb - 1, r + y1, rfl, rfl, HIN, by first | rfl | trivial⟩
              case measure => simp [intOf]; omega
          · have hm0 : 0 ≤ qb * y0 := Int.mul_nonneg i5 b00
            have hm1 : qb * y0 ≤ 4294967295 * 4294967295 := Int.mul_le_mul (by omega) (by omega) b00 (by omega)
            have w0' : IntKind.u64.wrap (qb * y0) = qb * y0 := by rw [IntKind.wrap_u64]; omega
            obtain ⟨qy, hqy⟩ : ∃ qy, qy = qb * y0 := ⟨_, rfl⟩
            rw [← hqy] at hm0 hm1
            have w0' : IntKind.u64.wrap (qb * y0) = qy := by rw [w0', hqy]
            by_cases hgt : 4294967296 * r + u0 < qy
            · have hQ' := KS2.out.step2 i1 (by rw [← hqy]; exact hgt)
              have hqp := KS2.out.nonneg
              have HQY := Lib.hid hqy
              clear hqy
              have hq1 : 1 ≤ qb := by omega
              have w4 : IntKind.u64.wrap (r + y1) = r + y1 := by rw [IntKind.wrap_u64]; omega
              by_cases hbr : 4294967296 ≤ r + y1
              · have hq_ := KS2.out.exit2 (q := qb - 1) (r := r + y1) (by rw [Int.sub_mul]; omega) hbr (by omega) hQ'
                obtain ⟨qb', hq'⟩ : ∃ q', q' = qb - 1 := ⟨_, rfl⟩
                have w3 : IntKind.u64.wrap (qb - 1) = qb' := by rw [hq', IntKind.wrap_u64]; omega
                rw [← hq'] at hq_
                have hq := Lib.hid hq_
                clear hq_ hq' i1 i2 i3 i4 i5 i6 hQ' b10 b11 b00 b01 bu0 bu1 hqp
                have hn2 := KS2.out.nonneg
                rw [← hq.out] at hn2
                have hn1 := HQ1.out
                have hr2 := KS2.out.rest
                rw [← hq.out] at hr2
                have hYlt : Y < 18446744073709551616 := by have := KS2.out.hY; have := KS2.out.y11; have := KS2.out.y01; omega
                obtain ⟨RB, e21⟩ : ∃ x, IntKind.u64.wrap (R1 * 4294967296) = x := ⟨_, rfl⟩
                obtain ⟨RB1, e22⟩ : ∃ x, IntKind.u64.wrap (RB + u0) = x := ⟨_, rfl⟩
                obtain ⟨qY2, e23⟩ : ∃ x, IntKind.u64.wrap (qb' * Y) = x := ⟨_, rfl⟩
                obtain ⟨R0, e24⟩ : ∃ x, IntKind.u64.wrap (RB1 - qY2) = x := ⟨_, rfl⟩
                have hR0 : R0 = R1 * 4294967296 + u0 - qb' * Y := by
                  rw [IntKind.wrap_u64] at e21 e22 e23 e24
                  omega
                have e25 : IntKind.u64.wrap (qa' * 4294967296) = qa' * 4294967296 := by rw [IntKind.wrap_u64]; omega
                have e26 : IntKind.u64.wrap (qa' * 4294967296 + qb') = qa' * 4294967296 + qb' := by rw [IntKind.wrap_u64]; omega
                have hfin := Lib.hid (knuth_end HK1.out HEY.out.2 HY.out HN.out HL.out HR1.out hR0 (by omega) (by omega))
                clear hn2 hn1 hr2 hYlt hR0
                go_wp2
                go_ret2
                rw [hfin.out.1, hfin.out.2]
                exact ⟨rfl, (by repeat (first | exact Below.refl _ _ | assumption | refine below_al ?_ _ | refine below_dr ?_ | refine below_drN ?_ _ | refine below_set ?_ (by simp; try omega) _ | (refine below_to ?_ (by assumption))))⟩
              · have hin : KI R1 u0 Y y1 (qb - 1) (r + y1) := ⟨by rw [Int.sub_mul]; omega, by omega, by omega, hQ', by omega, by omega⟩
                have HIN := Lib.hid hin
                have w3 : IntKind.u64.wrap (qb - 1) = qb - 1 := by rw [IntKind.wrap_u64]; omega
                clear hin i1 i2 i3 i4 i5 i6 hQ' b10 b11 b00 b01 bu0 bu1 hqp
                go_wp2
                go_roundw
                case rel => exact ⟨qb - 1, r + y1, rfl, rfl, HIN, by first | rfl | trivial⟩
                case measure => simp [intOf]; omega
            · have hq := Lib.hid (KS2.out.exit1 i1 (by rw [← hqy]; omega) i4)
              have HQY := Lib.hid hqy
              clear hqy i1 i2 i3 i4 i5 i6 b10 b11 b00 b01 bu0 bu1
              have hn2 := KS2.out.nonneg
              rw [← hq.out] at hn2
              have hn1 := HQ1.out
              have hr2 := KS2.out.rest
              rw [← hq.out] at hr2
              have hYlt : Y < 18446744073709551616 := by have := KS2.out.hY; have := KS2.out.y11; have := KS2.out.y01; omega
              obtain ⟨RB, e21⟩ : ∃ x, IntKind.u64.wrap (R1 * 4294967296) = x := ⟨_, rfl⟩
              obtain ⟨RB1, e22⟩ : ∃ x, IntKind.u64.wrap (RB + u0) = x := ⟨_, rfl⟩
              obtain ⟨qY2, e23⟩ : ∃ x, IntKind.u64.wrap (qb * Y) = x := ⟨_, rfl⟩
              obtain ⟨R0, e24⟩ : ∃ x, IntKind.u64.wrap (RB1 - qY2) = x := ⟨_, rfl⟩
              have hR0 : R0 = R1 * 4294967296 + u0 - qb * Y := by
                rw [IntKind.wrap_u64] at e21 e22 e23 e24
                omega
              have e25 : IntKind.u64.wrap (qa' * 4294967296) = qa' * 4294967296 := by rw [IntKind.wrap_u64]; omega
              have e26 : IntKind.u64.wrap (qa' * 4294967296 + qb) = qa' * 4294967296 + qb := by rw [IntKind.wrap_u64]; omega
              have hfin := Lib.hid (knuth_end HK1.out HEY.out.2 HY.out HN.out HL.out HR1.out hR0 (by omega) (by omega))
              clear hn2 hn1 hr2 hYlt hR0
              go_wp2
              go_ret2
              rw [hfin.out.1, hfin.out.2]
              exact ⟨rfl, (by repeat (first | exact Below.refl _ _ | assumption | refine below_al ?_ _ | refine below_dr ?_ | refine below_drN ?_ _ | refine below_set ?_ (by simp; try omega) _ | (refine below_to ?_ (by assumption))))⟩
      · have hin : KI U u1 Y y1 (qa - 1) (r + y1) := ⟨by rw [Int.sub_mul]; omega, by omega, by omega, hQ', by omega, by omega⟩
        have HIN := Lib.hid hin
        have w3 : IntKind.u64.wrap (qa - 1) = qa - 1 := by rw [IntKind.wrap_u64]; omega
        clear hin i1 i2 i3 i4 i5 i6 hQ' b10 b11 b00 b01 bu0 bu1 hqp
        go_wp2
        go_roundw
        case rel => exact ⟨qa - 1, r + y1, rfl, rfl, HIN, by first | rfl | trivial⟩
        case measure => simp [intOf]; omega
    · have hm0 : 0 ≤ qa * y0 := Int.mul_nonneg i5 b00
      have hm1 : qa * y0 ≤ 4294967295 * 4294967295 := Int.mul_le_mul (by omega) (by omega) b00 (by omega)
      have w0' : IntKind.u64.wrap (qa * y0) = qa * y0 := by rw [IntKind.wrap_u64]; omega
      obtain ⟨qy, hqy⟩ : ∃ qy, qy = qa * y0 := ⟨_, rfl⟩
      rw [← hqy] at hm0 hm1
      have w0' : IntKind.u64.wrap (qa * y0) = qy := by rw [w0', hqy]
      by_cases hgt : 4294967296 * r + u1 < qy
      · have hQ' := KS1.out.step2 i1 (by rw [← hqy]; exact hgt)
        have hqp := KS1.out.nonneg
        have HQY := Lib.hid hqy
        clear hqy
        have hq1 : 1 ≤ qa := by omega
        have w4 : IntKind.u64.wrap (r + y1) = r + y1 := by rw [IntKind.wrap_u64]; omega
        by_cases hbr : 4294967296 ≤ r + y1
        · have hq_ := KS1.out.exit2 (q := qa - 1) (r := r + y1) (by rw [Int.sub_mul]; omega) hbr (by omega) hQ'
          obtain ⟨qa', hq'⟩ : ∃ q', q' = qa - 1 := ⟨_, rfl⟩
          have w3 : IntKind.u64.wrap (qa - 1) = qa' := by rw [hq', IntKind.wrap_u64]; omega
          rw [← hq'] at hq_
          have hq := Lib.hid hq_
          clear hq_ hq' i1 i2 i3 i4 i5 i6 hQ' b10 b11 b00 b01 bu0 bu1 hqp
          have hr1 := KS1.out.rest
          rw [← hq.out] at hr1
          have hn1 := KS1.out.nonneg
          rw [← hq.out] at hn1
          have HQ1 := Lib.hid hn1
          have hYlt : Y < 18446744073709551616 := by have := KS1.out.hY; have := KS1.out.y11; have := KS1.out.y01; omega
          obtain ⟨UB, e13⟩ : ∃ x, IntKind.u64.wrap (U * 4294967296) = x := ⟨_, rfl⟩
          obtain ⟨UB1, e14⟩ : ∃ x, IntKind.u64.wrap (UB + u1) = x := ⟨_, rfl⟩
          obtain ⟨qY, e15⟩ : ∃ x, IntKind.u64.wrap (qa' * Y) = x := ⟨_, rfl⟩
          obtain ⟨R1, e16⟩ : ∃ x, IntKind.u64.wrap (UB1 - qY) = x := ⟨_, rfl⟩
          have hR1 : R1 = U * 4294967296 + u1 - qa' * Y := by
            rw [IntKind.wrap_u64] at e13 e14 e15 e16
            omega
          have HR1 := Lib.hid hR1
          obtain ⟨KS2', _⟩ := KS1.out.two HU0.out.1 HU0.out.2
          rw [← hq.out, ← hR1] at KS2'
          have HR1b := Lib.hid (show 0 ≤ R1 ∧ R1 < Y by rw [hR1]; exact hr1)
          obtain ⟨g1, g2, g3, g4, g5, g6⟩ := KS2'.first
          obtain ⟨q0, e17⟩ : ∃ q, R1 / y1 = q := ⟨_, rfl⟩
          obtain ⟨r0, hr⟩ : ∃ r, r = R1 % y1 := ⟨_, rfl⟩
          rw [e17, ← hr] at g4
          rw [← hr] at g5 g6
          rw [e17] at g1 g2 g3
          have b1 := KS2'.y11
          have b0 := KS2'.U0
          have bu := KS2'.U1
          have e18 : IntKind.u64.wrap (q0 * y1) = q0 * y1 := by rw [IntKind.wrap_u64]; have : 0 ≤ q0 * y1 := Int.mul_nonneg g3 (by omega); omega
          have e19 : IntKind.u64.wrap (R1 - q0 * y1) = r0 := by rw [IntKind.wrap_u64]; omega
          have e20 : IntKind.u64.wrap q0 = q0 := by rw [IntKind.wrap_u64]; omega
          have tq2 : Int.tdiv R1 y1 = R1 / y1 := Int.tdiv_eq_ediv_of_nonneg b0
          have KI2 := Lib.hid (show KI R1 u0 Y y1 q0 r0 from ⟨g4, g5, by omega, g1, g3, g2⟩)
          have KS2 := Lib.hid KS2'
          clear hr1 hn1 hYlt hR1 KS2' g1 g2 g3 g4 g5 g6 hr b1 b0 bu
          go_wp2_with fail
          go_loopw [18, 16] (fun a b wr => ∃ q r : Int, a = .int .u64 q ∧ b = .int .u64 r ∧ Hid (KI R1 u0 Y y1 q r) ∧ w1 = wr) (fun a _ _ => (intOf a).toNat)
          case atStart => exact ⟨q0, r0, rfl, rfl, KI2, rfl⟩
          case round =>
            obtain ⟨qb, r, rfl, rfl, hki, rfl⟩ := hrel
            obtain ⟨i1, i2, i3, i4, i5, i6⟩ := hki.out
            have b10 := KS2.out.y10
            have b11 := KS2.out.y11
            have b00 := KS2.out.y00
            have b01 := KS2.out.y01
            have bu0 := KS2.out.u0
            have bu1 := KS2.out.u1
            have w1' : IntKind.u64.wrap (4294967296 * r) = 4294967296 * r := by rw [IntKind.wrap_u64]; omega
            have w2' : IntKind.u64.wrap (4294967296 * r + u0) = 4294967296 * r + u0 := by rw [IntKind.wrap_u64]; omega
            by_cases hqB : 4294967296 ≤ qb
            · have hQ' := KS2.out.step1 hqB
              have hqp := KS2.out.nonneg
              have hq1 : 1 ≤ qb := by omega
              have w4 : IntKind.u64.wrap (r + y1) = r + y1 := by rw [IntKind.wrap_u64]; omega
              by_cases hbr : 4294967296 ≤ r + y1
              · have hq_ := KS2.out.exit2 (q := qb - 1) (r := r + y1) (by rw [Int.sub_mul]; omega) hbr (by omega) hQ'
                obtain ⟨qb', hq'⟩ : ∃ q', q' = qb - 1 := ⟨_, rfl⟩
                have w3 : IntKind.u64.wrap (qb - 1) = qb' := by rw [hq', IntKind.wrap_u64]; omega
                rw [← hq'] at hq_
                have hq := Lib.hid hq_
                clear hq_ hq' i1 i2 i3 i4 i5 i6 hQ' b10 b11 b00 b01 bu0 bu1 hqp
                have hn2 := KS2.out.nonneg
                rw [← hq.out] at hn2
                have hn1 := HQ1.out
                have hr2 := KS2.out.rest
                rw [← hq.out] at hr2
                have hYlt : Y < 18446744073709551616 := by have := KS2.out.hY; have := KS2.out.y11; have := KS2.out.y01; omega
                obtain ⟨RB, e21⟩ : ∃ x, IntKind.u64.wrap (R1 * 4294967296) = x := ⟨_, rfl⟩
                obtain ⟨RB1, e22⟩ : ∃ x, IntKind.u64.wrap (RB + u0) = x := ⟨_, rfl⟩
                obtain ⟨qY2, e23⟩ : ∃ x, IntKind.u64.wrap (qb' * Y) = x := ⟨_, rfl⟩
                obtain ⟨R0, e24⟩ : ∃ x, IntKind.u64.wrap (RB1 - qY2) = x := ⟨_, rfl⟩
                have hR0 : R0 = R1 * 4294967296 + u0 - qb' * Y := by
                  rw [IntKind.wrap_u64] at e21 e22 e23 e24
                  omega
                have e25 : IntKind.u64.wrap (qa' * 4294967296) = qa' * 4294967296 := by rw [IntKind.wrap_u64]; omega
                have e26 : IntKind.u64.wrap (qa' * 4294967296 + qb') = qa' * 4294967296 + qb' := by rw [IntKind.wrap_u64]; omega
                have hfin := Lib.hid (knuth_end HK1.out HEY.out.2 HY.out HN.out HL.out HR1.out hR0 (by omega) (by omega))
                clear hn2 hn1 hr2 hYlt hR0
                go_wp2
                go_ret2
                rw [hfin.out.1, hfin.out.2]
                exact ⟨rfl, (by repeat (first | exact Below.refl _ _ | assumption | refine below_al ?_ _ | refine below_dr ?_ | refine below_drN ?_ _ | refine below_set ?_ (by simp; try omega) _ | (refine below_to ?_ (by assumption))))⟩
              · have hin : KI R1 u0 Y y1 (qb - 1) (r + y1) := ⟨by rw [Int.sub_mul]; omega, by omega, by omega, hQ', by omega, by omega⟩
                have HIN := Lib.hid hin
                have w3 : IntKind.u64.wrap (qb - 1) = qb - 1 := by rw [IntKind.wrap_u64]; omega
                clear hin i1 i2 i3 i4 i5 i6 hQ' b10 b11 b00 b01 bu0 bu1 hqp
                go_wp2
                go_roundw
                case rel => exact ⟨qb - 1, r + y1, rfl, rfl, HIN, by first | rfl | trivial⟩
                case measure => simp [intOf]; omega
            · have hm0 : 0 ≤ qb * y0 := Int.mul_nonneg i5 b00
              have hm1 : qb * y0 ≤ 4294967295 * 4294967295 := Int.mul_le_mul (by omega) (by omega) b00 (by omega)
              have w0' : IntKind.u64.wrap (qb * y0) = qb * y0 := by rw [IntKind.wrap_u64]; omega
              obtain ⟨qy, hqy⟩ : ∃ qy, qy = qb * y0 := ⟨_, rfl⟩
              rw [← hqy] at hm0 hm1
              have w0' : IntKind.u64.wrap (qb * y0) = qy := by rw [w0', hqy]
              by_cases hgt : 4294967296 * r + u0 < qy
              · have hQ' := KS2.out.step2 i1 (by rw [← hqy]; exact hgt)
                have hqp := KS2.out.nonneg
                have HQY := Lib.hid hqy
                clear hqy
                have hq1 : 1 ≤ qb := by omega
                have w4 : IntKind.u64.wrap (r + y1) = r + y1 := by rw [IntKind.wrap_u64]; omega
                by_cases hbr : 4294967296 ≤ r + y1
                · have hq_ := KS2.out.exit2 (q := qb - 1) (r := r + y1) (by rw [Int.sub_mul]; omega) hbr (by omega) hQ'
                  obtain ⟨qb', hq'⟩ : ∃ q', q' = qb - 1 := ⟨_, rfl⟩
                  have w3 : IntKind.u64.wrap (qb - 1) = qb' := by rw [hq', IntKind.wrap_u64]; omega
                  rw [← hq'] at hq_
                  have hq := Lib.hid hq_
                  clear hq_ hq' i1 i2 i3 i4 i5 i6 hQ' b10 b11 b00 b01 bu0 bu1 hqp
                  have hn2 := KS2.out.nonneg
                  rw [← hq.out] at hn2
                  have hn1 := HQ1.out
                  have hr2 := KS2.out.rest
                  rw [← hq.out] at hr2
                  have hYlt : Y < 18446744073709551616 := by have := KS2.out.hY; have := KS2.out.y11; have := KS2.out.y01; omega
                  obtain ⟨RB, e21⟩ : ∃ x, IntKind.u64.wrap (R1 * 4294967296) = x := ⟨_, rfl⟩
                  obtain ⟨RB1, e22⟩ : ∃ x, IntKind.u64.wrap (RB + u0) = x := ⟨_, rfl⟩
                  obtain ⟨qY2, e23⟩ : ∃ x, IntKind.u64.wrap (qb' * Y) = x := ⟨_, rfl⟩
                  obtain ⟨R0, e24⟩ : ∃ x, IntKind.u64.wrap (RB1 - qY2) = x := ⟨_, rfl⟩
                  have hR0 : R0 = R1 * 4294967296 + u0 - qb' * Y := by
                    rw [IntKind.wrap_u64] at e21 e22 e23 e24
                    omega
                  have e25 : IntKind.u64.wrap (qa' * 4294967296) = qa' * 4294967296 := by rw [IntKind.wrap_u64]; omega
                  have e26 : IntKind.u64.wrap (qa' * 4294967296 + qb') = qa' * 4294967296 + qb' := by rw [IntKind.wrap_u64]; omega
                  have hfin := Lib.hid (knuth_end HK1.out HEY.out.2 HY.out HN.out HL.out HR1.out hR0 (by omega) (by omega))
                  clear hn2 hn1 hr2 hYlt hR0
                  go_wp2
                  go_ret2
                  rw [hfin.out.1, hfin.out.2]
                  exact ⟨rfl, (by repeat (first | exact Below.refl _ _ | assumption | refine below_al ?_ _ | refine below_dr ?_ | refine below_drN ?_ _ | refine below_set ?_ (by simp; try omega) _ | (refine below_to ?_ (by assumption))))⟩
                · have hin : KI R1 u0 Y y1 (qb - 1) (r + y1) := ⟨by rw [Int.sub_mul]; omega, by omega, by omega, hQ', by omega, by omega⟩
                  have HIN := Lib.hid hin
                  have w3 : IntKind.u64.wrap (qb - 1) = qb - 1 := by rw [IntKind.wrap_u64]; omega
                  clear hin i1 i2 i3 i4 i5 i6 hQ' b10 b11 b00 b01 bu0 bu1 hqp
                  go_wp2
                  go_roundw
                  case rel => exact ⟨qb - 1, r + y1, rfl, rfl, HIN, by first | rfl | trivial⟩
                  case measure => simp [intOf]; omega
              · have hq := Lib.hid (KS2.out.exit1 i1 (by rw [← hqy]; omega) i4)
                have HQY := Lib.hid hqy
                clear hqy i1 i2 i3 i4 i5 i6 b10 b11 b00 b01 bu0 bu1
                have hn2 := KS2.out.nonneg
                rw [← hq.out] at hn2
                have hn1 := HQ1.out
                have hr2 := KS2.out.rest
                rw [← hq.out] at hr2
                have hYlt : Y < 18446744073709551616 := by have := KS2.out.hY; have := KS2.out.y11; have := KS2.out.y01; omega
                obtain ⟨RB, e21⟩ : ∃ x, IntKind.u64.wrap (R1 * 4294967296) = x := ⟨_, rfl⟩
                obtain ⟨RB1, e22⟩ : ∃ x, IntKind.u64.wrap (RB + u0) = x := ⟨_, rfl⟩
                obtain ⟨qY2, e23⟩ : ∃ x, IntKind.u64.wrap (qb * Y) = x := ⟨_, rfl⟩
                obtain ⟨R0, e24⟩ : ∃ x, IntKind.u64.wrap (RB1 - qY2) = x := ⟨_, rfl⟩
                have hR0 : R0 = R1 * 4294967296 + u0 - qb * Y := by
                  rw [IntKind.wrap_u64] at e21 e22 e23 e24
                  omega
                have e25 : IntKind.u64.wrap (qa' * 4294967296) = qa' * 4294967296 := by rw [IntKind.wrap_u64]; omega
                have e26 : IntKind.u64.wrap (qa' * 4294967296 + qb) = qa' * 4294967296 + qb := by rw [IntKind.wrap_u64]; omega
                have hfin := Lib.hid (knuth_end HK1.out HEY.out.2 HY.out HN.out HL.out HR1.out hR0 (by omega) (by omega))
                clear hn2 hn1 hr2 hYlt hR0
                go_wp2
                go_ret2
                rw [hfin.out.1, hfin.out.2]
                exact ⟨rfl, (by repeat (first | exact Below.refl _ _ | assumption | refine below_al ?_ _ | refine below_dr ?_ | refine below_drN ?_ _ | refine below_set ?_ (by simp; try omega) _ | (refine below_to ?_ (by assumption))))⟩
        · have hin : KI U u1 Y y1 (qa - 1) (r + y1) := ⟨by rw [Int.sub_mul]; omega, by omega, by omega, hQ', by omega, by omega⟩
          have HIN := Lib.hid hin
          have w3 : IntKind.u64.wrap (qa - 1) = qa - 1 := by rw [IntKind.wrap_u64]; omega
          clear hin i1 i2 i3 i4 i5 i6 hQ' b10 b11 b00 b01 bu0 bu1 hqp
          go_wp2
          go_roundw
          case rel => exact ⟨qa - 1, r + y1, rfl, rfl, HIN, by first | rfl | trivial⟩
          case measure => simp [intOf]; omega
      · have hq := Lib.hid (KS1.out.exit1 i1 (by rw [← hqy]; omega) i4)
        have HQY := Lib.hid hqy
        clear hqy i1 i2 i3 i4 i5 i6 b10 b11 b00 b01 bu0 bu1
        have hr1 := KS1.out.rest
        rw [← hq.out] at hr1
        have hn1 := KS1.out.nonneg
        rw [← hq.out] at hn1
        have HQ1 := Lib.hid hn1
        have hYlt : Y < 18446744073709551616 := by have := KS1.out.hY; have := KS1.out.y11; have := KS1.out.y01; omega
        obtain ⟨UB, e13⟩ : ∃ x, IntKind.u64.wrap (U * 4294967296) = x := ⟨_, rfl⟩
        obtain ⟨UB1, e14⟩ : ∃ x, IntKind.u64.wrap (UB + u1) = x := ⟨_, rfl⟩
        obtain ⟨qY, e15⟩ : ∃ x, IntKind.u64.wrap (qa * Y) = x := ⟨_, rfl⟩
        obtain ⟨R1, e16⟩ : ∃ x, IntKind.u64.wrap (UB1 - qY) = x := ⟨_, rfl⟩
        have hR1 : R1 = U * 4294967296 + u1 - qa * Y := by
          rw [IntKind.wrap_u64] at e13 e14 e15 e16
          omega
        have HR1 := Lib.hid hR1
        obtain ⟨KS2', _⟩ := KS1.out.two HU0.out.1 HU0.out.2
        rw [← hq.out, ← hR1] at KS2'
        have HR1b := Lib.hid (show 0 ≤ R1 ∧ R1 < Y by rw [hR1]; exact hr1)
        obtain ⟨g1, g2, g3, g4, g5, g6⟩ := KS2'.first
        obtain ⟨q0, e17⟩ : ∃ q, R1 / y1 = q := ⟨_, rfl⟩
        obtain ⟨r0, hr⟩ : ∃ r, r = R1 % y1 := ⟨_, rfl⟩
        rw [e17, ← hr] at g4
        rw [← hr] at g5 g6
        rw [e17] at g1 g2 g3
        have b1 := KS2'.y11
        have b0 := KS2'.U0
        have bu := KS2'.U1
        have e18 : IntKind.u64.wrap (q0 * y1) = q0 * y1 := by rw [IntKind.wrap_u64]; have : 0 ≤ q0 * y1 := Int.mul_nonneg g3 (by omega); omega
        have e19 : IntKind.u64.wrap (R1 - q0 * y1) = r0 := by rw [IntKind.wrap_u64]; omega
        have e20 : IntKind.u64.wrap q0 = q0 := by rw [IntKind.wrap_u64]; omega
        have tq2 : Int.tdiv R1 y1 = R1 / y1 := Int.tdiv_eq_ediv_of_nonneg b0
        have KI2 := Lib.hid (show KI R1 u0 Y y1 q0 r0 from ⟨g4, g5, by omega, g1, g3, g2⟩)
        have KS2 := Lib.hid KS2'
        clear hr1 hn1 hYlt hR1 KS2' g1 g2 g3 g4 g5 g6 hr b1 b0 bu
        go_wp2_with fail
        go_loopw [18, 16] (fun a b wr => ∃ q r : Int, a = .int .u64 q ∧ b = .int .u64 r ∧ Hid (KI R1 u0 Y y1 q r) ∧ w1 = wr) (fun a _ _ => (intOf a).toNat)
        case atStart => exact ⟨q0, r0, rfl, rfl, KI2, rfl⟩
        case round =>
          obtain ⟨qb, r, rfl, rfl, hki, rfl⟩ := hrel
          obtain ⟨i1, i2, i3, i4, i5, i6⟩ := hki.out
          have b10 := KS2.out.y10
          have b11 := KS2.out.y11
          have b00 := KS2.out.y00
          have b01 := KS2.out.y01
          have bu0 := KS2.out.u0
          have bu1 := KS2.out.u1
          have w1' : IntKind.u64.wrap (4294967296 * r) = 4294967296 * r := by rw [IntKind.wrap_u64]; omega
          have w2' : IntKind.u64.wrap (4294967296 * r + u0) = 4294967296 * r + u0 := by rw [IntKind.wrap_u64]; omega
          by_cases hqB : 4294967296 ≤ qb
          · have hQ' := KS2.out.step1 hqB
            have hqp := KS2.out.nonneg
            have hq1 : 1 ≤ qb := by omega
            have w4 : IntKind.u64.wrap (r + y1) = r + y1 := by rw [IntKind.wrap_u64]; omega
            by_cases hbr : 4294967296 ≤ r + y1
            · have hq_ := KS2.out.exit2 (q := qb - 1) (r := r + y1) (by rw [Int.sub_mul]; omega) hbr (by omega) hQ'
              obtain ⟨qb', hq'⟩ : ∃ q', q' = qb - 1 := ⟨_, rfl⟩
              have w3 : IntKind.u64.wrap (qb - 1) = qb' := by rw [hq', IntKind.wrap_u64]; omega
              rw [← hq'] at hq_
              have hq := Lib.hid hq_
              clear hq_ hq' i1 i2 i3 i4 i5 i6 hQ' b10 b11 b00 b01 bu0 bu1 hqp
              have hn2 := KS2.out.nonneg
              rw [← hq.out] at hn2
              have hn1 := HQ1.out
              have hr2 := KS2.out.rest
              rw [← hq.out] at hr2
              have hYlt : Y < 18446744073709551616 := by have := KS2.out.hY; have := KS2.out.y11; have := KS2.out.y01; omega
              obtain ⟨RB, e21⟩ : ∃ x, IntKind.u64.wrap (R1 * 4294967296) = x := ⟨_, rfl⟩
              obtain ⟨RB1, e22⟩ : ∃ x, IntKind.u64.wrap (RB + u0) = x := ⟨_, rfl⟩
              obtain ⟨qY2, e23⟩ : ∃ x, IntKind.u64.wrap (qb' * Y) = x := ⟨_, rfl⟩
              obtain ⟨R0, e24⟩ : ∃ x, IntKind.u64.wrap (RB1 - qY2) = x := ⟨_, rfl⟩
              have hR0 : R0 = R1 * 4294967296 + u0 - qb' * Y := by
                rw [IntKind.wrap_u64] at e21 e22 e23 e24
                omega
              have e25 : IntKind.u64.wrap (qa * 4294967296) = qa * 4294967296 := by rw [IntKind.wrap_u64]; omega
              have e26 : IntKind.u64.wrap (qa * 4294967296 + qb') = qa * 4294967296 + qb' := by rw [IntKind.wrap_u64]; omega
              have hfin := Lib.hid (knuth_end HK1.out HEY.out.2 HY.out HN.out HL.out HR1.out hR0 (by omega) (by omega))
              clear hn2 hn1 hr2 hYlt hR0
              go_wp2
              go_ret2
              rw [hfin.out.1, hfin.out.2]
              exact ⟨rfl, (by repeat (first | exact Below.refl _ _ | assumption | refine below_al ?_ _ | refine below_dr ?_ | refine below_drN ?_ _ | refine below_set ?_ (by simp; try omega) _ | (refine below_to ?_ (by assumption))))⟩
            · have hin : KI R1 u0 Y y1 (qb - 1) (r + y1) := ⟨by rw [Int.sub_mul]; omega, by omega, by omega, hQ', by omega, by omega⟩
              have HIN := Lib.hid hin
              have w3 : IntKind.u64.wrap (qb - 1) = qb - 1 := by rw [IntKind.wrap_u64]; omega
              clear hin i1 i2 i3 i4 i5 i6 hQ' b10 b11 b00 b01 bu0 bu1 hqp
              go_wp2
              go_roundw
              case rel => exact ⟨qb - 1, r + y1, rfl, rfl, HIN, by first | rfl | trivial⟩
              case measure => simp [intOf]; omega
          · have hm0 : 0 ≤ qb * y0 := Int.mul_nonneg i5 b00
            have hm1 : qb * y0 ≤ 4294967295 * 4294967295 := Int.mul_le_mul (by omega) (by omega) b00 (by omega)
            have w0' : IntKind.u64.wrap (qb * y0) = qb * y0 := by rw [IntKind.wrap_u64]; omega
            obtain ⟨qy, hqy⟩ : ∃ qy, qy = qb * y0 := ⟨_, rfl⟩
            rw [← hqy] at hm0 hm1
            have w0' : IntKind.u64.wrap (qb * y0) = qy := by rw [w0', hqy]
            by_cases hgt : 4294967296 * r + u0 < qy
            · have hQ' := KS2.out.step2 i1 (by rw [← hqy]; exact hgt)
              have hqp := KS2.out.nonneg
              have HQY := Lib.hid hqy
              clear hqy
              have hq1 : 1 ≤ qb := by omega
              have w4 : IntKind.u64.wrap (r + y1) = r + y1 := by rw [IntKind.wrap_u64]; omega
              by_cases hbr : 4294967296 ≤ r + y1
              · have hq_ := KS2.out.exit2 (q := qb - 1) (r := r + y1) (by rw [Int.sub_mul]; omega) hbr (by omega) hQ'
                obtain ⟨qb', hq'⟩ : ∃ q', q' = qb - 1 := ⟨_, rfl⟩
                have w3 : IntKind.u64.wrap (qb - 1) = qb' := by rw [hq', IntKind.wrap_u64]; omega
                rw [← hq'] at hq_
                have hq := Lib.hid hq_
                clear hq_ hq' i1 i2 i3 i4 i5 i6 hQ' b10 b11 b00 b01 bu0 bu1 hqp
                have hn2 := KS2.out.nonneg
                rw [← hq.out] at hn2
                have hn1 := HQ1.out
                have hr2 := KS2.out.rest
                rw [← hq.out] at hr2
                have hYlt : Y < 18446744073709551616 := by have := KS2.out.hY; have := KS2.out.y11; have := KS2.out.y01; omega
                obtain ⟨RB, e21⟩ : ∃ x, IntKind.u64.wrap (R1 * 4294967296) = x := ⟨_, rfl⟩
                obtain ⟨RB1, e22⟩ : ∃ x, IntKind.u64.wrap (RB + u0) = x := ⟨_, rfl⟩
                obtain ⟨qY2, e23⟩ : ∃ x, IntKind.u64.wrap (qb' * Y) = x := ⟨_, rfl⟩
                obtain ⟨R0, e24⟩ : ∃ x, IntKind.u64.wrap (RB1 - qY2) = x := ⟨_, rfl⟩
                have hR0 : R0 = R1 * 4294967296 + u0 - qb' * Y := by
                  rw [IntKind.wrap_u64] at e21 e22 e23 e24
                  omega
                have e25 : IntKind.u64.wrap (qa * 4294967296) = qa * 4294967296 := by rw [IntKind.wrap_u64]; omega
                have e26 : IntKind.u64.wrap (qa * 4294967296 + qb') = qa * 4294967296 + qb' := by rw [IntKind.wrap_u64]; omega
                have hfin := Lib.hid (knuth_end HK1.out HEY.out.2 HY.out HN.out HL.out HR1.out hR0 (by omega) (by omega))
                clear hn2 hn1 hr2 hYlt hR0
                go_wp2
                go_ret2
                rw [hfin.out.1, hfin.out.2]
                exact ⟨rfl, (by repeat (first | exact Below.refl _ _ | assumption | refine below_al ?_ _ | refine below_dr ?_ | refine below_drN ?_ _ | refine below_set ?_ (by simp; try omega) _ | (refine below_to ?_ (by assumption))))⟩
              · have hin : KI R1 u0 Y y1 (qb - 1) (r + y1) := ⟨by rw [Int.sub_mul]; omega, by omega, by omega, hQ', by omega, by omega⟩
                have HIN := Lib.hid hin
                have w3 : IntKind.u64.wrap (qb - 1) = qb - 1 := by rw [IntKind.wrap_u64]; omega
                clear hin i1 i2 i3 i4 i5 i6 hQ' b10 b11 b00 b01 bu0 bu1 hqp
                go_wp2
                go_roundw
                case rel => exact ⟨qb - 1, r + y1, rfl, rfl, HIN, by first | rfl | trivial⟩
                case measure => simp [intOf]; omega
            · have hq := Lib.hid (KS2.out.exit1 i1 (by rw [← hqy]; omega) i4)
              have HQY := Lib.hid hqy
              clear hqy i1 i2 i3 i4 i5 i6 b10 b11 b00 b01 bu0 bu1
              have hn2 := KS2.out.nonneg
              rw [← hq.out] at hn2
              have hn1 := HQ1.out
              have hr2 := KS2.out.rest
              rw [← hq.out] at hr2
              have hYlt : Y < 18446744073709551616 := by have := KS2.out.hY; have := KS2.out.y11; have := KS2.out.y01; omega
              obtain ⟨RB, e21⟩ : ∃ x, IntKind.u64.wrap (R1 * 4294967296) = x := ⟨_, rfl⟩
              obtain ⟨RB1, e22⟩ : ∃ x, IntKind.u64.wrap (RB + u0) = x := ⟨_, rfl⟩
              obtain ⟨qY2, e23⟩ : ∃ x, IntKind.u64.wrap (qb * Y) = x := ⟨_, rfl⟩
              obtain ⟨R0, e24⟩ : ∃ x, IntKind.u64.wrap (RB1 - qY2) = x := ⟨_, rfl⟩
              have hR0 : R0 = R1 * 4294967296 + u0 - qb * Y := by
                rw [IntKind.wrap_u64] at e21 e22 e23 e24
                omega
              have e25 : IntKind.u64.wrap (qa * 4294967296) = qa * 4294967296 := by rw [IntKind.wrap_u64]; omega
              have e26 : IntKind.u64.wrap (qa * 4294967296 + qb) = qa * 4294967296 + qb := by rw [IntKind.wrap_u64]; omega
              have hfin := Lib.hid (knuth_end HK1.out HEY.out.2 HY.out HN.out HL.out HR1.out hR0 (by omega) (by omega))
              clear hn2 hn1 hr2 hYlt hR0
              go_wp2
              go_ret2
              rw [hfin.out.1, hfin.out.2]
              exact ⟨rfl, (by repeat (first | exact Below.refl _ _ | assumption | refine below_al ?_ _ | refine below_dr ?_ | refine below_drN ?_ _ | refine below_set ?_ (by simp; try omega) _ | (refine below_to ?_ (by assumption))))⟩
end Go.Proofs.Ytdfkghpgekmmlaa

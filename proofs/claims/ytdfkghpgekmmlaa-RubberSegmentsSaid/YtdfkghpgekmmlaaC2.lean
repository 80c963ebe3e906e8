/- limb.words.add: a product of two words more, from a place on; limb.Mul. -/
import Derived.Test.YtdfkghpgekmmlaaC1
import Derived.Test.YtdfkghpgekmmlaaD3
import Derived.StillTailTactics
import Derived.Deep.RegionWith
import Derived.Shelf.Bits.Mul64
namespace Go.Proofs.Ytdfkghpgekmmlaa
open Go.RowKit
set_option linter.unusedVariables false
set_option linter.unusedSimpArgs false

def mul64_ren : Go.Shelf.Ren := ⟨fun | 264 => 76 | n => n, fun | 53 => 37 | 46 => 92 | n => n, fun n => n⟩
theorem mul64_lays : Lays.n264 Try.prog mul64_ren := { mixed := by kernel_rfl, f264 := Try.func76.trans (congrArg some (by kernel_rfl)), t53 := Try.underlying37, a53 := Try.isAgg37, z53 := Try.sizeOf37, v53 := Try.zeroValue37, t46 := Try.underlying92, a46 := Try.isAgg92, z46 := Try.sizeOf92, v46 := Try.zeroValue92 }
theorem mul64 (x y : Int) (hx : 0 ≤ x) (hy : 0 ≤ y) (hx1 : x < 18446744073709551616) (hy1 : y < 18446744073709551616) (w : World) :
    Calls Try.prog 76 #[.int .u64 x, .int .u64 y] w fun e w' => e = .returned (.tuple #[.int .u64 (x * y / 18446744073709551616), .int .u64 (x * y % 18446744073709551616)]) ∧ w' = w := by
  obtain ⟨x, rfl⟩ := Int.eq_ofNat_of_zero_le hx
  obtain ⟨y, rfl⟩ := Int.eq_ofNat_of_zero_le hy
  have h := Any.bits_Mul64 mul64_lays x y (by omega) (by omega) w
  simp only [Int.natCast_mul, Int.natCast_ediv, Int.natCast_emod] at h
  exact h

/-- four words as a number -/
def V4 (x0 x1 x2 x3 : Int) : Int := x0 + x1 * 18446744073709551616 + x2 * 340282366920938463463374607431768211456 + x3 * 6277101735386680763835789423207666416102355444464034512896
def U64 (x : Int) : Prop := 0 ≤ x ∧ x < 18446744073709551616
def wcs (x0 x1 x2 x3 : Int) : Array Value := #[.int .u64 x0, .int .u64 x1, .int .u64 x2, .int .u64 x3]
/-- the words after 'add': they hold the sum, which fits -/
def WPost (g : Nat) (v : Int) (w w' : World) : Prop := ∃ y0 y1 y2 y3, U64 y0 ∧ U64 y1 ∧ U64 y2 ∧ U64 y3 ∧ V4 y0 y1 y2 y3 = v ∧ Blk w' g 108 (wcs y0 y1 y2 y3) ∧ w.grownBy w' (some g)

/-- the loop that carries on: the words, the carry c, the place i -/
def LoopI (g : Nat) (T : Int) (w0 : World) (cv iv : Value) (wr : World) : Prop := ∃ y0 y1 z2 z3 c n : Int, cv = .int .u64 c ∧ iv = .int .i64 n ∧ U64 y0 ∧ U64 y1 ∧ U64 z2 ∧ U64 z3 ∧ 0 ≤ c ∧ c ≤ 1 ∧
  ((n = 2 ∧ V4 y0 y1 z2 z3 + c * 340282366920938463463374607431768211456 = T) ∨ (n = 3 ∧ V4 y0 y1 z2 z3 + c * 6277101735386680763835789423207666416102355444464034512896 = T) ∨ (n = 4 ∧ V4 y0 y1 z2 z3 + c * 115792089237316195423570985008687907853269984665640564039457584007913129639936 = T)) ∧ Blk wr g 108 (wcs y0 y1 z2 z3) ∧ w0.grownBy wr (some g)





set_option maxHeartbeats 2000000 in
set_option maxRecDepth 100000 in
theorem wadd0_any (g : Nat) (x0 x1 x2 x3 a b : Int) (hx0 : U64 x0) (hx1 : U64 x1) (hx2 : U64 x2) (hx3 : U64 x3) (w : World) (hb : Blk w g 108 (wcs x0 x1 x2 x3)) (ha : U64 a) (hbb : U64 b) (hfit : V4 x0 x1 x2 x3 + a * b * 1 < 115792089237316195423570985008687907853269984665640564039457584007913129639936) :
    Calls Try.prog 70 #[.pointer (some ⟨g, 0, none⟩), .int .u64 a, .int .u64 b, .int .i64 0] w fun e w' => e = .returned (.tuple #[]) ∧ WPost g (V4 x0 x1 x2 x3 + a * b * 1) w w' := by
  have c0 := hb.cell 0
  have f0 := hb.frozen 0
  simp [wcs] at c0
  obtain ⟨ph, hph⟩ : ∃ ph, ph = a * b / 18446744073709551616 := ⟨_, rfl⟩
  obtain ⟨pl, hpl⟩ : ∃ pl, pl = a * b % 18446744073709551616 := ⟨_, rfl⟩
  have hm := mul64 a b ha.1 hbb.1 ha.2 hbb.2
  rw [← hph, ← hpl] at hm
  have hp : a * b = ph * 18446744073709551616 + pl := by omega
  have hab : 0 ≤ a * b := Int.mul_nonneg ha.1 hbb.1
  have hab2 : a * b ≤ 18446744073709551615 * 18446744073709551615 := Int.mul_le_mul (by have := ha.2; omega) (by have := hbb.2; omega) hbb.1 (by omega)
  rw [hp] at hab hab2 hfit ⊢
  have hpl0 : U64 pl := by constructor <;> omega
  have hph0 : U64 ph := by obtain ⟨_, _⟩ := hpl0; constructor <;> omega
  obtain ⟨T, hT⟩ : ∃ T, T = V4 x0 x1 x2 x3 + (ph * 18446744073709551616 + pl) * 1 := ⟨_, rfl⟩
  rw [← hT] at hfit ⊢
  obtain ⟨pl0, pl1⟩ := hpl0
  obtain ⟨ph0, ph1⟩ := hph0
  obtain ⟨y0, hy0⟩ : ∃ y0, y0 = (x0 + pl) % 18446744073709551616 := ⟨_, rfl⟩
  obtain ⟨k1, hk1⟩ : ∃ k1, k1 = (x0 + pl) / 18446744073709551616 := ⟨_, rfl⟩
  obtain ⟨y1, hy1⟩ : ∃ y1, y1 = (x1 + ph + k1) % 18446744073709551616 := ⟨_, rfl⟩
  obtain ⟨k2, hk2⟩ : ∃ k2, k2 = (x1 + ph + k1) / 18446744073709551616 := ⟨_, rfl⟩
  have hxA := hx0
  have hxB := hx1
  obtain ⟨xA0, xA1⟩ := hxA
  obtain ⟨xB0, xB1⟩ := hxB
  have h1 := add64 x0 pl 0 (by omega) (by omega) (by omega) (by omega)
  simp only [Int.add_zero] at h1
  rw [← hy0, ← hk1] at h1
  have h2 := add64 x1 ph k1 (by omega) (by omega) (by omega) (by omega)
  rw [← hy1, ← hk2] at h2
  have hb1 := (hb.set_ 0 (.int .u64 y0)).drew
  simp [wcs] at hb1
  have hg1 : w.grownBy (w.setCell ⟨g, 0, none⟩ (.int .u64 y0)).drew (some g) := gr_dr (gr_set (World.grownBy.refl w _) (.inl rfl) _)
  have hI0 : V4 y0 y1 x2 x3 + k2 * 340282366920938463463374607431768211456 = T := by rw [hT]; unfold V4; omega
  have q0 : U64 y0 := ⟨by omega, by omega⟩
  have q1 : U64 y1 := ⟨by omega, by omega⟩
  have q2 : 0 ≤ k2 ∧ k2 ≤ 1 := by omega
  have HM := Lib.hid hm
  have HB := Lib.hid hb1
  have HG := Lib.hid hg1
  clear hm hp hpl hph hb hab hab2 ha hbb hb1 hg1 hT hy0 hk1 hy1 hk2
  go_enter Try.func70, Try.ntmps70
  go_wp2_with fail
  refine (HM.out _).mono ?_
  rintro e w1 ⟨rfl, rfl⟩
  go_wp2_with fail
  go_region_with (fail)
  go_wp2_with fail
  have hb1 := HB.out
  have hg1 := HG.out
  obtain ⟨w2, hw2⟩ : ∃ w2, w2 = (w1.setCell ⟨g, 0, none⟩ (.int .u64 y0)).drew := ⟨_, rfl⟩
  rw [← hw2] at hb1 hg1 ⊢
  clear hw2
  have c1 := hb1.cell 1
  have f1 := hb1.frozen 1
  simp at c1
  have hb2 := (hb1.set_ 1 (.int .u64 y1)).drew
  simp at hb2
  have hg2 : w1.grownBy (w2.setCell ⟨g, 1, none⟩ (.int .u64 y1)).drew (some g) := gr_dr (gr_set hg1 (.inl rfl) _)
  have HB2 := Lib.hid hb2
  have HG2 := Lib.hid hg2
  clear hb1 hg1 hb2 hg2 c0 f0
  go_region_with (fail)
  go_wp2_with fail
  have HI0 := Lib.hid (show LoopI g T w1 (Value.int .u64 k2) (Value.int .i64 2) (w2.setCell ⟨g, 1, none⟩ (.int .u64 y1)).drew from
    ⟨y0, y1, x2, x3, k2, 2, rfl, rfl, q0, q1, hx2, hx3, q2.1, q2.2, .inl ⟨rfl, hI0⟩, HB2.out, HG2.out⟩)
  obtain ⟨w3, hw3⟩ : ∃ w3, w3 = (w2.setCell ⟨g, 1, none⟩ (.int .u64 y1)).drew := ⟨_, rfl⟩
  rw [← hw3] at HI0 ⊢
  clear hw3 HB2 HG2 HB HG c1 f1 h1 h2 hI0 q0 q1 q2
  go_loopw [10, 11] (fun c i wr => Hid (LoopI g T w1 c i wr)) (fun _ i _ => 4 - (intOf i).toNat)
  case atStart => exact HI0
  case round =>
    obtain ⟨y0, y1, z2, z3, c, n, rfl, rfl, hy0, hy1, hz2, hz3, hc0, hc1, hn, hbk, hgr⟩ := hrel.out
    clear hrel HI0
    have hz2' := hz2
    have hz3' := hz3
    obtain ⟨z20, z21⟩ := hz2'
    obtain ⟨z30, z31⟩ := hz3'
    rcases hn with ⟨rfl, hI⟩ | ⟨rfl, hI⟩ | ⟨rfl, hI⟩
    · skip
      obtain ⟨r0, hr0⟩ : ∃ r, r = (z2 + c) % 18446744073709551616 := ⟨_, rfl⟩
      obtain ⟨d0, hd0⟩ : ∃ d, d = (z2 + c) / 18446744073709551616 := ⟨_, rfl⟩
      have cz := hbk.cell 2
      have fz := hbk.frozen 2
      simp [wcs] at cz
      have hs := (hbk.set_ 2 (.int .u64 r0)).drew
      simp [wcs] at hs
      have hgs : w1.grownBy (wr.setCell ⟨g, 2, none⟩ (.int .u64 r0)).drew (some g) := gr_dr (gr_set hgr (.inl rfl) _)
      have h3 := add64 z2 0 c (by omega) (by omega) (by omega) (by omega)
      simp only [Int.add_zero] at h3
      rw [← hr0, ← hd0] at h3
      have HR := Lib.hid (show LoopI g T w1 (Value.int .u64 d0) (Value.int .i64 3) (wr.setCell ⟨g, 2, none⟩ (.int .u64 r0)).drew from
        ⟨y0, y1, r0, z3, d0, 3, rfl, rfl, hy0, hy1, ⟨by omega, by omega⟩, hz3, by omega, by omega, .inr (.inl ⟨rfl, ?_⟩), hs, hgs⟩)
      rotate_left
      · unfold V4 at hI ⊢; omega
      clear hs hgs hbk hgr hr0 hd0 hI
      go_wp2_with fail
      go_region_with (fail)
      go_wp2
      go_roundw
      case rel => exact HR.out
      case measure => simp [intOf]
    · skip
      obtain ⟨r0, hr0⟩ : ∃ r, r = (z3 + c) % 18446744073709551616 := ⟨_, rfl⟩
      obtain ⟨d0, hd0⟩ : ∃ d, d = (z3 + c) / 18446744073709551616 := ⟨_, rfl⟩
      have cz := hbk.cell 3
      have fz := hbk.frozen 3
      simp [wcs] at cz
      have hs := (hbk.set_ 3 (.int .u64 r0)).drew
      simp [wcs] at hs
      have hgs : w1.grownBy (wr.setCell ⟨g, 3, none⟩ (.int .u64 r0)).drew (some g) := gr_dr (gr_set hgr (.inl rfl) _)
      have h3 := add64 z3 0 c (by omega) (by omega) (by omega) (by omega)
      simp only [Int.add_zero] at h3
      rw [← hr0, ← hd0] at h3
      have HR := Lib.hid (show LoopI g T w1 (Value.int .u64 d0) (Value.int .i64 4) (wr.setCell ⟨g, 3, none⟩ (.int .u64 r0)).drew from
        ⟨y0, y1, z2, r0, d0, 4, rfl, rfl, hy0, hy1, hz2, ⟨by omega, by omega⟩, by omega, by omega, .inr (.inr ⟨rfl, ?_⟩), hs, hgs⟩)
      rotate_left
      · unfold V4 at hI ⊢; omega
      clear hs hgs hbk hgr hr0 hd0 hI
      go_wp2_with fail
      go_region_with (fail)
      go_wp2
      go_roundw
      case rel => exact HR.out
      case measure => simp [intOf]
    · have hpost : WPost g T w1 wr := ⟨y0, y1, z2, z3, hy0, hy1, hz2, hz3, by obtain ⟨_, _⟩ := hy0; obtain ⟨_, _⟩ := hy1; unfold V4 at hI ⊢; omega, hbk, hgr⟩
      have HP := Lib.hid hpost
      clear hpost hI hbk hgr
      go_wp2
      go_end0
      exact ⟨rfl, HP.out⟩

set_option maxHeartbeats 2000000 in
set_option maxRecDepth 100000 in
theorem wadd1_any (g : Nat) (x0 x1 x2 x3 a b : Int) (hx0 : U64 x0) (hx1 : U64 x1) (hx2 : U64 x2) (hx3 : U64 x3) (w : World) (hb : Blk w g 108 (wcs x0 x1 x2 x3)) (ha : U64 a) (hbb : U64 b) (hfit : V4 x0 x1 x2 x3 + a * b * 18446744073709551616 < 115792089237316195423570985008687907853269984665640564039457584007913129639936) :
    Calls Try.prog 70 #[.pointer (some ⟨g, 0, none⟩), .int .u64 a, .int .u64 b, .int .i64 1] w fun e w' => e = .returned (.tuple #[]) ∧ WPost g (V4 x0 x1 x2 x3 + a * b * 18446744073709551616) w w' := by
  have c0 := hb.cell 1
  have f0 := hb.frozen 1
  simp [wcs] at c0
  obtain ⟨ph, hph⟩ : ∃ ph, ph = a * b / 18446744073709551616 := ⟨_, rfl⟩
  obtain ⟨pl, hpl⟩ : ∃ pl, pl = a * b % 18446744073709551616 := ⟨_, rfl⟩
  have hm := mul64 a b ha.1 hbb.1 ha.2 hbb.2
  rw [← hph, ← hpl] at hm
  have hp : a * b = ph * 18446744073709551616 + pl := by omega
  have hab : 0 ≤ a * b := Int.mul_nonneg ha.1 hbb.1
  have hab2 : a * b ≤ 18446744073709551615 * 18446744073709551615 := Int.mul_le_mul (by have := ha.2; omega) (by have := hbb.2; omega) hbb.1 (by omega)
  rw [hp] at hab hab2 hfit ⊢
  have hpl0 : U64 pl := by constructor <;> omega
  have hph0 : U64 ph := by obtain ⟨_, _⟩ := hpl0; constructor <;> omega
  obtain ⟨T, hT⟩ : ∃ T, T = V4 x0 x1 x2 x3 + (ph * 18446744073709551616 + pl) * 18446744073709551616 := ⟨_, rfl⟩
  rw [← hT] at hfit ⊢
  obtain ⟨pl0, pl1⟩ := hpl0
  obtain ⟨ph0, ph1⟩ := hph0
  obtain ⟨y0, hy0⟩ : ∃ y0, y0 = (x1 + pl) % 18446744073709551616 := ⟨_, rfl⟩
  obtain ⟨k1, hk1⟩ : ∃ k1, k1 = (x1 + pl) / 18446744073709551616 := ⟨_, rfl⟩
  obtain ⟨y1, hy1⟩ : ∃ y1, y1 = (x2 + ph + k1) % 18446744073709551616 := ⟨_, rfl⟩
  obtain ⟨k2, hk2⟩ : ∃ k2, k2 = (x2 + ph + k1) / 18446744073709551616 := ⟨_, rfl⟩
  have hxA := hx1
  have hxB := hx2
  obtain ⟨xA0, xA1⟩ := hxA
  obtain ⟨xB0, xB1⟩ := hxB
  have h1 := add64 x1 pl 0 (by omega) (by omega) (by omega) (by omega)
  simp only [Int.add_zero] at h1
  rw [← hy0, ← hk1] at h1
  have h2 := add64 x2 ph k1 (by omega) (by omega) (by omega) (by omega)
  rw [← hy1, ← hk2] at h2
  have hb1 := (hb.set_ 1 (.int .u64 y0)).drew
  simp [wcs] at hb1
  have hg1 : w.grownBy (w.setCell ⟨g, 1, none⟩ (.int .u64 y0)).drew (some g) := gr_dr (gr_set (World.grownBy.refl w _) (.inl rfl) _)
  have hI0 : V4 x0 y0 y1 x3 + k2 * 6277101735386680763835789423207666416102355444464034512896 = T := by rw [hT]; unfold V4; omega
  have q0 : U64 y0 := ⟨by omega, by omega⟩
  have q1 : U64 y1 := ⟨by omega, by omega⟩
  have q2 : 0 ≤ k2 ∧ k2 ≤ 1 := by omega
  have HM := Lib.hid hm
  have HB := Lib.hid hb1
  have HG := Lib.hid hg1
  clear hm hp hpl hph hb hab hab2 ha hbb hb1 hg1 hT hy0 hk1 hy1 hk2
  go_enter Try.func70, Try.ntmps70
  go_wp2_with fail
  refine (HM.out _).mono ?_
  rintro e w1 ⟨rfl, rfl⟩
  go_wp2_with fail
  go_region_with (fail)
  go_wp2_with fail
  have hb1 := HB.out
  have hg1 := HG.out
  obtain ⟨w2, hw2⟩ : ∃ w2, w2 = (w1.setCell ⟨g, 1, none⟩ (.int .u64 y0)).drew := ⟨_, rfl⟩
  rw [← hw2] at hb1 hg1 ⊢
  clear hw2
  have c1 := hb1.cell 2
  have f1 := hb1.frozen 2
  simp at c1
  have hb2 := (hb1.set_ 2 (.int .u64 y1)).drew
  simp at hb2
  have hg2 : w1.grownBy (w2.setCell ⟨g, 2, none⟩ (.int .u64 y1)).drew (some g) := gr_dr (gr_set hg1 (.inl rfl) _)
  have HB2 := Lib.hid hb2
  have HG2 := Lib.hid hg2
  clear hb1 hg1 hb2 hg2 c0 f0
  go_region_with (fail)
  go_wp2_with fail
  have HI0 := Lib.hid (show LoopI g T w1 (Value.int .u64 k2) (Value.int .i64 3) (w2.setCell ⟨g, 2, none⟩ (.int .u64 y1)).drew from
    ⟨x0, y0, y1, x3, k2, 3, rfl, rfl, hx0, q0, q1, hx3, q2.1, q2.2, .inr (.inl ⟨rfl, hI0⟩), HB2.out, HG2.out⟩)
  obtain ⟨w3, hw3⟩ : ∃ w3, w3 = (w2.setCell ⟨g, 2, none⟩ (.int .u64 y1)).drew := ⟨_, rfl⟩
  rw [← hw3] at HI0 ⊢
  clear hw3 HB2 HG2 HB HG c1 f1 h1 h2 hI0 q0 q1 q2
  go_loopw [10, 11] (fun c i wr => Hid (LoopI g T w1 c i wr)) (fun _ i _ => 4 - (intOf i).toNat)
  case atStart => exact HI0
  case round =>
    obtain ⟨y0, y1, z2, z3, c, n, rfl, rfl, hy0, hy1, hz2, hz3, hc0, hc1, hn, hbk, hgr⟩ := hrel.out
    clear hrel HI0
    have hz2' := hz2
    have hz3' := hz3
    obtain ⟨z20, z21⟩ := hz2'
    obtain ⟨z30, z31⟩ := hz3'
    rcases hn with ⟨rfl, hI⟩ | ⟨rfl, hI⟩ | ⟨rfl, hI⟩
    · skip
      obtain ⟨r0, hr0⟩ : ∃ r, r = (z2 + c) % 18446744073709551616 := ⟨_, rfl⟩
      obtain ⟨d0, hd0⟩ : ∃ d, d = (z2 + c) / 18446744073709551616 := ⟨_, rfl⟩
      have cz := hbk.cell 2
      have fz := hbk.frozen 2
      simp [wcs] at cz
      have hs := (hbk.set_ 2 (.int .u64 r0)).drew
      simp [wcs] at hs
      have hgs : w1.grownBy (wr.setCell ⟨g, 2, none⟩ (.int .u64 r0)).drew (some g) := gr_dr (gr_set hgr (.inl rfl) _)
      have h3 := add64 z2 0 c (by omega) (by omega) (by omega) (by omega)
      simp only [Int.add_zero] at h3
      rw [← hr0, ← hd0] at h3
      have HR := Lib.hid (show LoopI g T w1 (Value.int .u64 d0) (Value.int .i64 3) (wr.setCell ⟨g, 2, none⟩ (.int .u64 r0)).drew from
        ⟨y0, y1, r0, z3, d0, 3, rfl, rfl, hy0, hy1, ⟨by omega, by omega⟩, hz3, by omega, by omega, .inr (.inl ⟨rfl, ?_⟩), hs, hgs⟩)
      rotate_left
      · unfold V4 at hI ⊢; omega
      clear hs hgs hbk hgr hr0 hd0 hI
      go_wp2_with fail
      go_region_with (fail)
      go_wp2
      go_roundw
      case rel => exact HR.out
      case measure => simp [intOf]
    · skip
      obtain ⟨r0, hr0⟩ : ∃ r, r = (z3 + c) % 18446744073709551616 := ⟨_, rfl⟩
      obtain ⟨d0, hd0⟩ : ∃ d, d = (z3 + c) / 18446744073709551616 := ⟨_, rfl⟩
      have cz := hbk.cell 3
      have fz := hbk.frozen 3
      simp [wcs] at cz
      have hs := (hbk.set_ 3 (.int .u64 r0)).drew
      simp [wcs] at hs
      have hgs : w1.grownBy (wr.setCell ⟨g, 3, none⟩ (.int .u64 r0)).drew (some g) := gr_dr (gr_set hgr (.inl rfl) _)
      have h3 := add64 z3 0 c (by omega) (by omega) (by omega) (by omega)
      simp only [Int.add_zero] at h3
      rw [← hr0, ← hd0] at h3
      have HR := Lib.hid (show LoopI g T w1 (Value.int .u64 d0) (Value.int .i64 4) (wr.setCell ⟨g, 3, none⟩ (.int .u64 r0)).drew from
        ⟨y0, y1, z2, r0, d0, 4, rfl, rfl, hy0, hy1, hz2, ⟨by omega, by omega⟩, by omega, by omega, .inr (.inr ⟨rfl, ?_⟩), hs, hgs⟩)
      rotate_left
      · unfold V4 at hI ⊢; omega
      clear hs hgs hbk hgr hr0 hd0 hI
      go_wp2_with fail
      go_region_with (fail)
      go_wp2
      go_roundw
      case rel => exact HR.out
      case measure => simp [intOf]
    · have hpost : WPost g T w1 wr := ⟨y0, y1, z2, z3, hy0, hy1, hz2, hz3, by obtain ⟨_, _⟩ := hy0; obtain ⟨_, _⟩ := hy1; unfold V4 at hI ⊢; omega, hbk, hgr⟩
      have HP := Lib.hid hpost
      clear hpost hI hbk hgr
      go_wp2
      go_end0
      exact ⟨rfl, HP.out⟩

set_option maxHeartbeats 2000000 in
set_option maxRecDepth 100000 in
theorem wadd2_any (g : Nat) (x0 x1 x2 x3 a b : Int) (hx0 : U64 x0) (hx1 : U64 x1) (hx2 : U64 x2) (hx3 : U64 x3) (w : World) (hb : Blk w g 108 (wcs x0 x1 x2 x3)) (ha : U64 a) (hbb : U64 b) (hfit : V4 x0 x1 x2 x3 + a * b * 340282366920938463463374607431768211456 < 115792089237316195423570985008687907853269984665640564039457584007913129639936) :
    Calls Try.prog 70 #[.pointer (some ⟨g, 0, none⟩), .int .u64 a, .int .u64 b, .int .i64 2] w fun e w' => e = .returned (.tuple #[]) ∧ WPost g (V4 x0 x1 x2 x3 + a * b * 340282366920938463463374607431768211456) w w' := by
  have c0 := hb.cell 2
  have f0 := hb.frozen 2
  simp [wcs] at c0
  obtain ⟨ph, hph⟩ : ∃ ph, ph = a * b / 18446744073709551616 := ⟨_, rfl⟩
  obtain ⟨pl, hpl⟩ : ∃ pl, pl = a * b % 18446744073709551616 := ⟨_, rfl⟩
  have hm := mul64 a b ha.1 hbb.1 ha.2 hbb.2
  rw [← hph, ← hpl] at hm
  have hp : a * b = ph * 18446744073709551616 + pl := by omega
  have hab : 0 ≤ a * b := Int.mul_nonneg ha.1 hbb.1
  have hab2 : a * b ≤ 18446744073709551615 * 18446744073709551615 := Int.mul_le_mul (by have := ha.2; omega) (by have := hbb.2; omega) hbb.1 (by omega)
  rw [hp] at hab hab2 hfit ⊢
  have hpl0 : U64 pl := by constructor <;> omega
  have hph0 : U64 ph := by obtain ⟨_, _⟩ := hpl0; constructor <;> omega
  obtain ⟨T, hT⟩ : ∃ T, T = V4 x0 x1 x2 x3 + (ph * 18446744073709551616 + pl) * 340282366920938463463374607431768211456 := ⟨_, rfl⟩
  rw [← hT] at hfit ⊢
  obtain ⟨pl0, pl1⟩ := hpl0
  obtain ⟨ph0, ph1⟩ := hph0
  obtain ⟨y0, hy0⟩ : ∃ y0, y0 = (x2 + pl) % 18446744073709551616 := ⟨_, rfl⟩
  obtain ⟨k1, hk1⟩ : ∃ k1, k1 = (x2 + pl) / 18446744073709551616 := ⟨_, rfl⟩
  obtain ⟨y1, hy1⟩ : ∃ y1, y1 = (x3 + ph + k1) % 18446744073709551616 := ⟨_, rfl⟩
  obtain ⟨k2, hk2⟩ : ∃ k2, k2 = (x3 + ph + k1) / 18446744073709551616 := ⟨_, rfl⟩
  have hxA := hx2
  have hxB := hx3
  obtain ⟨xA0, xA1⟩ := hxA
  obtain ⟨xB0, xB1⟩ := hxB
  have h1 := add64 x2 pl 0 (by omega) (by omega) (by omega) (by omega)
  simp only [Int.add_zero] at h1
  rw [← hy0, ← hk1] at h1
  have h2 := add64 x3 ph k1 (by omega) (by omega) (by omega) (by omega)
  rw [← hy1, ← hk2] at h2
  have hb1 := (hb.set_ 2 (.int .u64 y0)).drew
  simp [wcs] at hb1
  have hg1 : w.grownBy (w.setCell ⟨g, 2, none⟩ (.int .u64 y0)).drew (some g) := gr_dr (gr_set (World.grownBy.refl w _) (.inl rfl) _)
  have hI0 : V4 x0 x1 y0 y1 + k2 * 115792089237316195423570985008687907853269984665640564039457584007913129639936 = T := by rw [hT]; unfold V4; omega
  have q0 : U64 y0 := ⟨by omega, by omega⟩
  have q1 : U64 y1 := ⟨by omega, by omega⟩
  have q2 : 0 ≤ k2 ∧ k2 ≤ 1 := by omega
  have HM := Lib.hid hm
  have HB := Lib.hid hb1
  have HG := Lib.hid hg1
  clear hm hp hpl hph hb hab hab2 ha hbb hb1 hg1 hT hy0 hk1 hy1 hk2
  go_enter Try.func70, Try.ntmps70
  go_wp2_with fail
  refine (HM.out _).mono ?_
  rintro e w1 ⟨rfl, rfl⟩
  go_wp2_with fail
  go_region_with (fail)
  go_wp2_with fail
  have hb1 := HB.out
  have hg1 := HG.out
  obtain ⟨w2, hw2⟩ : ∃ w2, w2 = (w1.setCell ⟨g, 2, none⟩ (.int .u64 y0)).drew := ⟨_, rfl⟩
  rw [← hw2] at hb1 hg1 ⊢
  clear hw2
  have c1 := hb1.cell 3
  have f1 := hb1.frozen 3
  simp at c1
  have hb2 := (hb1.set_ 3 (.int .u64 y1)).drew
  simp at hb2
  have hg2 : w1.grownBy (w2.setCell ⟨g, 3, none⟩ (.int .u64 y1)).drew (some g) := gr_dr (gr_set hg1 (.inl rfl) _)
  have HB2 := Lib.hid hb2
  have HG2 := Lib.hid hg2
  clear hb1 hg1 hb2 hg2 c0 f0
  go_region_with (fail)
  go_wp2_with fail
  have HI0 := Lib.hid (show LoopI g T w1 (Value.int .u64 k2) (Value.int .i64 4) (w2.setCell ⟨g, 3, none⟩ (.int .u64 y1)).drew from
    ⟨x0, x1, y0, y1, k2, 4, rfl, rfl, hx0, hx1, q0, q1, q2.1, q2.2, .inr (.inr ⟨rfl, hI0⟩), HB2.out, HG2.out⟩)
  obtain ⟨w3, hw3⟩ : ∃ w3, w3 = (w2.setCell ⟨g, 3, none⟩ (.int .u64 y1)).drew := ⟨_, rfl⟩
  rw [← hw3] at HI0 ⊢
  clear hw3 HB2 HG2 HB HG c1 f1 h1 h2 hI0 q0 q1 q2
  go_loopw [10, 11] (fun c i wr => Hid (LoopI g T w1 c i wr)) (fun _ i _ => 4 - (intOf i).toNat)
  case atStart => exact HI0
  case round =>
    obtain ⟨y0, y1, z2, z3, c, n, rfl, rfl, hy0, hy1, hz2, hz3, hc0, hc1, hn, hbk, hgr⟩ := hrel.out
    clear hrel HI0
    have hz2' := hz2
    have hz3' := hz3
    obtain ⟨z20, z21⟩ := hz2'
    obtain ⟨z30, z31⟩ := hz3'
    rcases hn with ⟨rfl, hI⟩ | ⟨rfl, hI⟩ | ⟨rfl, hI⟩
    · skip
      obtain ⟨r0, hr0⟩ : ∃ r, r = (z2 + c) % 18446744073709551616 := ⟨_, rfl⟩
      obtain ⟨d0, hd0⟩ : ∃ d, d = (z2 + c) / 18446744073709551616 := ⟨_, rfl⟩
      have cz := hbk.cell 2
      have fz := hbk.frozen 2
      simp [wcs] at cz
      have hs := (hbk.set_ 2 (.int .u64 r0)).drew
      simp [wcs] at hs
      have hgs : w1.grownBy (wr.setCell ⟨g, 2, none⟩ (.int .u64 r0)).drew (some g) := gr_dr (gr_set hgr (.inl rfl) _)
      have h3 := add64 z2 0 c (by omega) (by omega) (by omega) (by omega)
      simp only [Int.add_zero] at h3
      rw [← hr0, ← hd0] at h3
      have HR := Lib.hid (show LoopI g T w1 (Value.int .u64 d0) (Value.int .i64 3) (wr.setCell ⟨g, 2, none⟩ (.int .u64 r0)).drew from
        ⟨y0, y1, r0, z3, d0, 3, rfl, rfl, hy0, hy1, ⟨by omega, by omega⟩, hz3, by omega, by omega, .inr (.inl ⟨rfl, ?_⟩), hs, hgs⟩)
      rotate_left
      · unfold V4 at hI ⊢; omega
      clear hs hgs hbk hgr hr0 hd0 hI
      go_wp2_with fail
      go_region_with (fail)
      go_wp2
      go_roundw
      case rel => exact HR.out
      case measure => simp [intOf]
    · skip
      obtain ⟨r0, hr0⟩ : ∃ r, r = (z3 + c) % 18446744073709551616 := ⟨_, rfl⟩
      obtain ⟨d0, hd0⟩ : ∃ d, d = (z3 + c) / 18446744073709551616 := ⟨_, rfl⟩
      have cz := hbk.cell 3
      have fz := hbk.frozen 3
      simp [wcs] at cz
      have hs := (hbk.set_ 3 (.int .u64 r0)).drew
      simp [wcs] at hs
      have hgs : w1.grownBy (wr.setCell ⟨g, 3, none⟩ (.int .u64 r0)).drew (some g) := gr_dr (gr_set hgr (.inl rfl) _)
      have h3 := add64 z3 0 c (by omega) (by omega) (by omega) (by omega)
      simp only [Int.add_zero] at h3
      rw [← hr0, ← hd0] at h3
      have HR := Lib.hid (show LoopI g T w1 (Value.int .u64 d0) (Value.int .i64 4) (wr.setCell ⟨g, 3, none⟩ (.int .u64 r0)).drew from
        ⟨y0, y1, z2, r0, d0, 4, rfl, rfl, hy0, hy1, hz2, ⟨by omega, by omega⟩, by omega, by omega, .inr (.inr ⟨rfl, ?_⟩), hs, hgs⟩)
      rotate_left
      · unfold V4 at hI ⊢; omega
      clear hs hgs hbk hgr hr0 hd0 hI
      go_wp2_with fail
      go_region_with (fail)
      go_wp2
      go_roundw
      case rel => exact HR.out
      case measure => simp [intOf]
    · have hpost : WPost g T w1 wr := ⟨y0, y1, z2, z3, hy0, hy1, hz2, hz3, by obtain ⟨_, _⟩ := hy0; obtain ⟨_, _⟩ := hy1; unfold V4 at hI ⊢; omega, hbk, hgr⟩
      have HP := Lib.hid hpost
      clear hpost hI hbk hgr
      go_wp2
      go_end0
      exact ⟨rfl, HP.out⟩
end Go.Proofs.Ytdfkghpgekmmlaa

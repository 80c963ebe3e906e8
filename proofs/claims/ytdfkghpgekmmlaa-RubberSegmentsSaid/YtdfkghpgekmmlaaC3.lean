/- limb.Mul: the product of two numbers of 128 bits. -/
import Derived.Test.YtdfkghpgekmmlaaC2
namespace Go.Proofs.Ytdfkghpgekmmlaa
open Go.RowKit
set_option linter.unusedVariables false
set_option linter.unusedSimpArgs false

theorem V4_hi {y0 y1 y2 y3 p : Int} (h0 : U64 y0) (h1 : U64 y1) (h2 : U64 y2) (h3 : U64 y3) (h : V4 y0 y1 y2 y3 = p) :
    y3 = hi (p / 340282366920938463463374607431768211456) ∧ y2 = lo (p / 340282366920938463463374607431768211456) ∧ y1 = hi (p % 340282366920938463463374607431768211456) ∧ y0 = lo (p % 340282366920938463463374607431768211456) := by
  obtain ⟨_, _⟩ := h0; obtain ⟨_, _⟩ := h1; obtain ⟨_, _⟩ := h2; obtain ⟨_, _⟩ := h3
  unfold V4 at h; unfold hi lo; omega

theorem wadd_post {g : Nat} {v v' : Int} {w w' : World} (h : v = v') (k : WPost g v w w') : WPost g v' w w' := h ▸ k

/-- what limb.Mul keeps in memory beside the words -/
def MW (w W : World) (ah al bh bl : Int) : Prop :=
  Blk W w.heap.size 96 #[.int .u64 ah, .int .u64 al] ∧ Blk W (w.heap.size + 1) 96 #[.int .u64 bh, .int .u64 bl] ∧
  Blk W (w.heap.size + 1 + 1) 96 #[.int .u64 0, .int .u64 0] ∧ Blk W (w.heap.size + 1 + 1 + 1) 96 #[.int .u64 0, .int .u64 0] ∧ Below w.heap.size w W
theorem MW.gr {w W W' : World} {ah al bh bl : Int} (h : MW w W ah al bh bl) (hg : W.grownBy W' (some (w.heap.size + 1 + 1 + 1 + 1))) : MW w W' ah al bh bl := by
  obtain ⟨h0, h1, h2, h3, h4⟩ := h
  exact ⟨h0.grown hg (by simp; omega), h1.grown hg (by simp), h2.grown hg (by simp), h3.grown hg (by simp), h4.grown hg h4.size (fun k hk => by simp only [Option.some.injEq] at hk; omega)⟩
theorem MW.cells {w W : World} {ah al bh bl : Int} (h : MW w W ah al bh bl) : W.cell? ⟨w.heap.size, 0, none⟩ = some (.int .u64 ah) ∧ W.cell? ⟨w.heap.size, 1, none⟩ = some (.int .u64 al) ∧
    W.cell? ⟨w.heap.size + 1, 0, none⟩ = some (.int .u64 bh) ∧ W.cell? ⟨w.heap.size + 1, 1, none⟩ = some (.int .u64 bl) := by
  obtain ⟨h0, h1, h2, h3, h4⟩ := h
  exact ⟨by rw [h0.cell]; rfl, by rw [h0.cell]; rfl, by rw [h1.cell]; rfl, by rw [h1.cell]; rfl⟩
theorem MW.mk (w : World) (ah al bh bl : Int) : MW w (((((w.alloc (.cells #[.int .u64 ah, .int .u64 al] 96)).alloc (.cells #[.int .u64 bh, .int .u64 bl] 96)).alloc (.cells #[.int .u64 0, .int .u64 0] 96)).alloc (.cells #[.int .u64 0, .int .u64 0] 96)).alloc (.cells #[.int .u64 0, .int .u64 0, .int .u64 0, .int .u64 0] 108)) ah al bh bl := by
  refine ⟨?_, ?_, ?_, ?_, (by repeat (first | exact Below.refl _ _ | assumption | refine below_al ?_ _ | refine below_dr ?_ | refine below_drN ?_ _ | refine below_set ?_ (by simp; try omega) _ | (refine below_to ?_ (by assumption))))⟩
  · exact ((((Blk.new w _ _).alloc _).alloc _).alloc _).alloc _
  · exact ((((by simpa using Blk.new (w.alloc _) 96 #[.int .u64 bh, .int .u64 bl] : Blk ((w.alloc (.cells #[.int .u64 ah, .int .u64 al] 96)).alloc (.cells #[.int .u64 bh, .int .u64 bl] 96)) (w.heap.size + 1) 96 #[.int .u64 bh, .int .u64 bl])).alloc _).alloc _).alloc _
  · exact ((by simpa using Blk.new ((w.alloc (.cells #[.int .u64 ah, .int .u64 al] 96)).alloc (.cells #[.int .u64 bh, .int .u64 bl] 96)) 96 #[.int .u64 0, .int .u64 0] : Blk (((w.alloc (.cells #[.int .u64 ah, .int .u64 al] 96)).alloc (.cells #[.int .u64 bh, .int .u64 bl] 96)).alloc (.cells #[.int .u64 0, .int .u64 0] 96)) (w.heap.size + 1 + 1) 96 #[.int .u64 0, .int .u64 0]).alloc _).alloc _
  · exact ((by simpa using Blk.new (((w.alloc (.cells #[.int .u64 ah, .int .u64 al] 96)).alloc (.cells #[.int .u64 bh, .int .u64 bl] 96)).alloc (.cells #[.int .u64 0, .int .u64 0] 96)) 96 #[.int .u64 0, .int .u64 0] : Blk ((((w.alloc (.cells #[.int .u64 ah, .int .u64 al] 96)).alloc (.cells #[.int .u64 bh, .int .u64 bl] 96)).alloc (.cells #[.int .u64 0, .int .u64 0] 96)).alloc (.cells #[.int .u64 0, .int .u64 0] 96)) (w.heap.size + 1 + 1 + 1) 96 #[.int .u64 0, .int .u64 0])).alloc _

set_option maxHeartbeats 2000000 in
set_option maxRecDepth 100000 in
theorem lmul_any (a b : Int) (ha : InM a) (hb : InM b) (w : World) :
    Calls Try.prog 58 #[.agg #[.int .u64 (hi (a)), .int .u64 (lo (a))], .agg #[.int .u64 (hi (b)), .int .u64 (lo (b))]] w fun e w' => e = .returned (.tuple #[.agg #[.int .u64 (hi (a * b / 340282366920938463463374607431768211456)), .int .u64 (lo (a * b / 340282366920938463463374607431768211456))], .agg #[.int .u64 (hi (a * b % 340282366920938463463374607431768211456)), .int .u64 (lo (a * b % 340282366920938463463374607431768211456))]]) ∧ Below w.heap.size w w' := by
  obtain ⟨ah, hah⟩ : ∃ x, x = hi a := ⟨_, rfl⟩
  obtain ⟨al, hal⟩ : ∃ x, x = lo a := ⟨_, rfl⟩
  obtain ⟨bh, hbh⟩ : ∃ x, x = hi b := ⟨_, rfl⟩
  obtain ⟨bl, hbl⟩ : ∃ x, x = lo b := ⟨_, rfl⟩
  have u1 : U64 ah := by rw [hah]; exact inM_hi ha
  have u2 : U64 al := by rw [hal]; exact ⟨lo0 a, lo1 a⟩
  have u3 : U64 bh := by rw [hbh]; exact inM_hi hb
  have u4 : U64 bl := by rw [hbl]; exact ⟨lo0 b, lo1 b⟩
  have ea : a = ah * 18446744073709551616 + al := by rw [hah, hal]; exact (hilo a).symm
  have eb : b = bh * 18446744073709551616 + bl := by rw [hbh, hbl]; exact (hilo b).symm
  have hlt : a * b < 115792089237316195423570985008687907853269984665640564039457584007913129639936 := by
    have : a * b ≤ 340282366920938463463374607431768211455 * 340282366920938463463374607431768211455 := Int.mul_le_mul (by have := ha.2; omega) (by have := hb.2; omega) hb.1 (by omega)
    omega
  have n0 : 0 ≤ al * bl := Int.mul_nonneg u2.1 u4.1
  have n1 : 0 ≤ al * bh := Int.mul_nonneg u2.1 u3.1
  have n2 : 0 ≤ ah * bl := Int.mul_nonneg u1.1 u4.1
  have n3 : 0 ≤ ah * bh := Int.mul_nonneg u1.1 u3.1
  have hexp : a * b = al * bl + (al * bh) * 18446744073709551616 + (ah * bl) * 18446744073709551616 + (ah * bh) * 340282366920938463463374607431768211456 := by
    rw [ea, eb]
    simp only [Int.add_mul, Int.mul_add]
    have e1 : ah * 18446744073709551616 * (bh * 18446744073709551616) = (ah * bh) * 340282366920938463463374607431768211456 := by
      rw [show (340282366920938463463374607431768211456 : Int) = 18446744073709551616 * 18446744073709551616 by rfl]; ac_rfl
    have e2 : ah * 18446744073709551616 * bl = ah * bl * 18446744073709551616 := by ac_rfl
    have e3 : al * (bh * 18446744073709551616) = al * bh * 18446744073709551616 := by ac_rfl
    rw [e1, e2, e3]
    omega
  rw [← hah, ← hal, ← hbh, ← hbl]
  obtain ⟨P, hP⟩ : ∃ P, P = a * b := ⟨_, rfl⟩
  rw [← hP]
  rw [← hP] at hlt hexp
  obtain ⟨p0, hp0⟩ : ∃ p, p = al * bl := ⟨_, rfl⟩
  obtain ⟨p1, hp1⟩ : ∃ p, p = al * bh := ⟨_, rfl⟩
  obtain ⟨p2, hp2⟩ : ∃ p, p = ah * bl := ⟨_, rfl⟩
  obtain ⟨p3, hp3⟩ : ∃ p, p = ah * bh := ⟨_, rfl⟩
  rw [← hp0, ← hp1, ← hp2, ← hp3] at hexp
  rw [← hp0] at n0
  rw [← hp1] at n1
  rw [← hp2] at n2
  rw [← hp3] at n3
  have U1 := Lib.hid u1
  have U2 := Lib.hid u2
  have U3 := Lib.hid u3
  have U4 := Lib.hid u4
  have HE := Lib.hid hexp
  have H0 := Lib.hid hp0
  have H1 := Lib.hid hp1
  have H2 := Lib.hid hp2
  have H3 := Lib.hid hp3
  clear hah hal hbh hbl u1 u2 u3 u4 ea eb hP ha hb hp0 hp1 hp2 hp3 hexp
  have hz : U64 0 := ⟨by omega, by omega⟩
  have hblk0 : Blk (((((w.alloc (.cells #[.int .u64 ah, .int .u64 al] 96)).alloc (.cells #[.int .u64 bh, .int .u64 bl] 96)).alloc (.cells #[.int .u64 0, .int .u64 0] 96)).alloc (.cells #[.int .u64 0, .int .u64 0] 96)).alloc (.cells #[.int .u64 0, .int .u64 0, .int .u64 0, .int .u64 0] 108)) (w.heap.size + 1 + 1 + 1 + 1) 108 (wcs 0 0 0 0) := by
    simpa [wcs] using Blk.new ((((w.alloc (.cells #[.int .u64 ah, .int .u64 al] 96)).alloc (.cells #[.int .u64 bh, .int .u64 bl] 96)).alloc (.cells #[.int .u64 0, .int .u64 0] 96)).alloc (.cells #[.int .u64 0, .int .u64 0] 96)) 108 (wcs 0 0 0 0)
  have HBK := Lib.hid hblk0
  have HMW := Lib.hid (MW.mk w ah al bh bl)
  have HP0 : 0 ≤ p0 ∧ p0 ≤ P := by have := HE.out; omega
  clear hblk0
  go_enter Try.func58, Try.ntmps58
  go_wp2_with fail
  refine (wadd0_any _ 0 0 0 0 al bl hz hz hz hz _ HBK.out U2.out U4.out (by rw [← H0.out]; have := HE.out; simp [V4]; omega)).mono ?_
  rintro e w1 ⟨rfl, hw1⟩
  obtain ⟨y0, y1, y2, y3, g0, g1, g2, g3, hv, hbk, hgr⟩ := wadd_post (v' := p0) (by simp [V4]; rw [H0.out]) hw1
  have HM1 := Lib.hid (HMW.out.gr hgr)
  obtain ⟨k0, k1, k2, k3⟩ := HM1.out.cells
  have HV1 := Lib.hid hv
  have HC1 := Lib.hid (wadd1_any _ y0 y1 y2 y3 al bh g0 g1 g2 g3 _ hbk U2.out U3.out (by rw [← H1.out, hv]; have := HE.out; omega))
  clear hw1 hv hbk hgr HBK HMW
  go_wp2_with fail
  refine HC1.out.mono ?_
  rintro e w2 ⟨rfl, hw2⟩
  obtain ⟨y0, y1, y2, y3, g0, g1, g2, g3, hv, hbk, hgr⟩ := wadd_post (v' := p0 + p1 * 18446744073709551616) (by rw [HV1.out, H1.out]) hw2
  have HM2 := Lib.hid (HM1.out.gr hgr)
  obtain ⟨k0, k1, k2, k3⟩ := HM2.out.cells
  have HV2 := Lib.hid hv
  have HC2 := Lib.hid (wadd1_any _ y0 y1 y2 y3 ah bl g0 g1 g2 g3 _ hbk U1.out U4.out (by rw [← H2.out, hv]; have := HE.out; omega))
  clear hw2 hv hbk hgr HM1 HC1
  go_wp2_with fail
  refine HC2.out.mono ?_
  rintro e w3 ⟨rfl, hw3⟩
  obtain ⟨y0, y1, y2, y3, g0, g1, g2, g3, hv, hbk, hgr⟩ := wadd_post (v' := p0 + p1 * 18446744073709551616 + p2 * 18446744073709551616) (by rw [HV2.out, H2.out]) hw3
  have HM3 := Lib.hid (HM2.out.gr hgr)
  obtain ⟨k0, k1, k2, k3⟩ := HM3.out.cells
  have HV3 := Lib.hid hv
  have HC3 := Lib.hid (wadd2_any _ y0 y1 y2 y3 ah bh g0 g1 g2 g3 _ hbk U1.out U3.out (by rw [← H3.out, hv]; have := HE.out; omega))
  clear hw3 hv hbk hgr HM2 HC2
  go_wp2_with fail
  refine HC3.out.mono ?_
  rintro e w4 ⟨rfl, hw4⟩
  obtain ⟨y0, y1, y2, y3, g0, g1, g2, g3, hv, hbk, hgr⟩ := wadd_post (v' := P) (by rw [HV3.out, ← H3.out, HE.out]) hw4
  have HM4 := Lib.hid (HM3.out.gr hgr)
  obtain ⟨e3, e2, e1, e0⟩ := V4_hi g0 g1 g2 g3 hv
  have c0 := hbk.cell 0
  have c1 := hbk.cell 1
  have c2 := hbk.cell 2
  have c3 := hbk.cell 3
  simp [wcs] at c0 c1 c2 c3
  have j20 := HM4.out.2.2.1.cell 0
  have j21 := HM4.out.2.2.1.cell 1
  have j30 := HM4.out.2.2.2.1.cell 0
  have j31 := HM4.out.2.2.2.1.cell 1
  have f20 := HM4.out.2.2.1.frozen 0
  have f21 := HM4.out.2.2.1.frozen 1
  have f30 := HM4.out.2.2.2.1.frozen 0
  have f31 := HM4.out.2.2.2.1.frozen 1
  simp at j20 j21 j30 j31
  have HE3 := Lib.hid e3
  have HE2 := Lib.hid e2
  have HE1 := Lib.hid e1
  have HE0 := Lib.hid e0
  clear hw4 hv hbk hgr HM3 HC3 e0 e1 e2 e3 k0 k1 k2 k3
  go_wp2_with fail
  go_region
  have HB := HM4.out.2.2.2.2
  rw [HE0.out, HE1.out, HE2.out, HE3.out]
  go_wp2
  clear HE0 HE1 HE2 HE3 HP0 c0 c1 c2 c3 hlt n0 n1 n2 n3 g0 g1 g2 g3
  refine bodyPost_ret (v := ?_) (by simp [results, Try.results58, go_sem, *]; rfl) rfl ⟨rfl, (by repeat (first | exact Below.refl _ _ | assumption | refine below_al ?_ _ | refine below_dr ?_ | refine below_drN ?_ _ | refine below_set ?_ (by simp; try omega) _ | (refine below_to ?_ (by assumption))))⟩
end Go.Proofs.Ytdfkghpgekmmlaa

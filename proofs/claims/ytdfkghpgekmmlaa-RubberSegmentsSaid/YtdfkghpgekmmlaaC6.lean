/- limb.Div: the walk. -/
import Derived.Test.YtdfkghpgekmmlaaC5
namespace Go.Proofs.Ytdfkghpgekmmlaa
open Go.RowKit
set_option linter.unusedVariables false
set_option linter.unusedSimpArgs false

set_option maxHeartbeats 4000000 in
set_option maxRecDepth 100000 in
theorem ldiv_no (h l d : Int) (hh : InM h) (lM : InM l) (dM : InM d) (hd : d ≤ h) (w : World) :
    Calls Try.prog 60 #[.agg #[.int .u64 (hi (h)), .int .u64 (lo (h))], .agg #[.int .u64 (hi (l)), .int .u64 (lo (l))], .agg #[.int .u64 (hi (d)), .int .u64 (lo (d))]] w fun e w' => e = .returned (.tuple #[.agg #[.int .u64 (hi (0)), .int .u64 (lo (0))], .agg #[.int .u64 (hi (0)), .int .u64 (lo (0))], .bool false]) ∧ Below w.heap.size w w' := by
  have HDW := Lib.hid (DW.mk w h l d)
  have hc : 0 ≤ cmp3 h d := by unfold cmp3; (repeat' split) <;> omega
  have HC := Lib.hid (lcmp_any h d hh dM)
  obtain ⟨c, hcc⟩ : ∃ c, c = cmp3 h d := ⟨_, rfl⟩
  rw [← hcc] at HC hc
  clear hcc hh lM dM hd
  have z0 : hi 0 = 0 := rfl
  have z1 : lo 0 = 0 := rfl
  rw [z0, z1]
  go_enter Try.func60, Try.ntmps60
  go_wp2_with fail
  refine (HC.out _).mono ?_
  rintro e w1 ⟨rfl, hb1⟩
  have HD1 := Lib.hid (HDW.out.bel hb1)
  obtain ⟨c00, c01, c10, c11, c20, c21, c30, c31, c40, c41⟩ := HD1.out.cells
  obtain ⟨f10, f11, f30, f31, f40, f41⟩ := HD1.out.frees
  clear hb1 HDW HC c00 c01 c10 c11 c20 c21
  go_wp2
  have HB := HD1.out.2.2.2.2.2
  refine bodyPost_ret (v := ?_) (by simp [results, Try.results60, go_sem, *]; rfl) rfl ⟨rfl, (by repeat (first | exact Below.refl _ _ | assumption | refine below_al ?_ _ | refine below_dr ?_ | refine below_drN ?_ _ | refine below_set ?_ (by simp; try omega) _ | (refine below_to ?_ (by assumption))))⟩

set_option maxHeartbeats 4000000 in
set_option maxRecDepth 100000 in
theorem ldiv_short (h l d : Int) (hh : InM h) (lM : InM l) (dM : InM d) (hd : h < d) (hd1 : d < 18446744073709551616) (w : World) :
    Calls Try.prog 60 #[.agg #[.int .u64 (hi (h)), .int .u64 (lo (h))], .agg #[.int .u64 (hi (l)), .int .u64 (lo (l))], .agg #[.int .u64 (hi (d)), .int .u64 (lo (d))]] w fun e w' => e = .returned (.tuple #[.agg #[.int .u64 (hi ((h * 340282366920938463463374607431768211456 + l) / d)), .int .u64 (lo ((h * 340282366920938463463374607431768211456 + l) / d))], .agg #[.int .u64 (hi ((h * 340282366920938463463374607431768211456 + l) % d)), .int .u64 (lo ((h * 340282366920938463463374607431768211456 + l) % d))], .bool true]) ∧ Below w.heap.size w w' := by
  have HDW := Lib.hid (DW.mk w h l d)
  have hc : cmp3 h d = -1 := by unfold cmp3; rw [if_neg (by omega), if_pos hd]
  have HC := Lib.hid (lcmp_any h d hh dM)
  rw [hc] at HC
  have h0 := hh.1
  have ed : lo d = d := by unfold lo; omega
  have eh : hi d = 0 := by unfold hi; omega
  have HS := Lib.hid (short_any h l d hh.1 hd hd1 lM)
  obtain ⟨R, hR⟩ : ∃ R, R = (h * 340282366920938463463374607431768211456 + l) % d := ⟨_, rfl⟩
  obtain ⟨Q, hQ⟩ : ∃ Q, Q = (h * 340282366920938463463374607431768211456 + l) / d := ⟨_, rfl⟩
  rw [← hR, ← hQ] at HS ⊢
  clear hR hQ hc hh lM dM h0 hd hd1
  rw [ed, eh] at HDW HC ⊢
  have HEd := Lib.hid ed
  have HEh := Lib.hid eh
  clear ed eh
  go_enter Try.func60, Try.ntmps60
  go_wp2_with fail
  refine (HC.out _).mono ?_
  rintro e w1 ⟨rfl, hb1⟩
  have HD1 := Lib.hid (HDW.out.bel hb1)
  obtain ⟨c00, c01, c10, c11, c20, c21, c30, c31, c40, c41⟩ := HD1.out.cells
  rw [HEh.out] at c20
  rw [HEd.out] at c21
  clear hb1 HDW HC
  go_wp2_with fail
  refine (HS.out _).mono ?_
  rintro e w2 ⟨rfl, hb2⟩
  have HD2 := Lib.hid (HD1.out.bel hb2)
  clear c00 c01 c10 c11 c20 c21 c30 c31 c40 c41 hb2
  obtain ⟨c00, c01, c10, c11, c20, c21, c30, c31, c40, c41⟩ := HD2.out.cells
  obtain ⟨f10, f11, f30, f31, f40, f41⟩ := HD2.out.frees
  clear c00 c01 c10 c11 c20 c21 f10 f11 HD1
  have HD3 := Lib.hid ((HD2.out.setQ Q).setR R)
  go_wp2_with fail
  clear c30 c31 c40 c41 f30 f31 f40 f41
  obtain ⟨w3, hw3⟩ : ∃ w3, w3 = ((((w2.setCell ⟨w.heap.size + 1 + 1 + 1, 0, none⟩ (.int .u64 (hi Q))).setCell ⟨w.heap.size + 1 + 1 + 1, 1, none⟩ (.int .u64 (lo Q))).setCell ⟨w.heap.size + 1 + 1 + 1 + 1, 0, none⟩ (.int .u64 (hi R))).setCell ⟨w.heap.size + 1 + 1 + 1 + 1, 1, none⟩ (.int .u64 (lo R))) := ⟨_, rfl⟩
  rw [← hw3] at HD3 ⊢
  clear hw3 HD2
  obtain ⟨c00, c01, c10, c11, c20, c21, c30, c31, c40, c41⟩ := HD3.out.cells
  obtain ⟨f10, f11, f30, f31, f40, f41⟩ := HD3.out.frees
  clear c00 c01 c10 c11 c20 c21 f10 f11
  go_region
  have HB := HD3.out.2.2.2.2.2
  go_wp2
  refine bodyPost_ret (v := ?_) (by simp [results, Try.results60, go_sem, *]; rfl) rfl ⟨rfl, (by repeat (first | exact Below.refl _ _ | assumption | refine below_al ?_ _ | refine below_dr ?_ | refine below_drN ?_ _ | refine below_set ?_ (by simp; try omega) _ | (refine below_to ?_ (by assumption))))⟩
end Go.Proofs.Ytdfkghpgekmmlaa

/- epactref01: Of, digit (printed by my walk.py) -/
import Derived.Test.YtdfkghpgekmmlaaE8
import Derived.Test.YtdfkghpgekmmlaaL4
import Derived.Test.YtdfkghpgekmmlaaM0
import Derived.Test.YtdfkghpgekmmlaaM3
import Derived.IntWalk
namespace Go.Proofs.Ytdfkghpgekmmlaa
open Go.RowKit
set_option linter.unusedVariables false
set_option linter.unusedSimpArgs false
attribute [local go_sem] vN bT bF rS vW vM vL vT2 vT3 vP vI execOp Act.eval evC bigF vB hi_zero lo_zero Try.underlying3 Try.underlying37 Try.underlying39 Try.underlying46

theorem hi_lo' {w : Int} : hi w * 18446744073709551616 + lo w = w := by unfold hi lo; omega
set_option maxRecDepth 100000 in
set_option maxHeartbeats 8000000 in
theorem Of_any (w0 : World) (z : Int) (hz : InW z) : Calls Try.prog 14 #[vW z] w0 fun e w' => ∃ v, e = .returned v ∧ Below w0.heap.size w0 w' ∧ BigN w0.heap.size w' v (z) := by
  have hst := St.start w0 (Θ := fun _ => True) (fun _ _ => trivial)
  refine en_ Try.func14 hst 14 [(0, vW z)] (fun ac h => ?_)
  replace h := h.facts
  refine wp_seq ?_
  refine rf_ h [[0],[1]] [KE_ fun env => vP (pb env 0) 0, KE_ fun env => vP (pb env 1) 0] (fun E1 => [(1, vP (pb E1 0) 0), (2, vP (pb E1 1) 0)]) (W := [{ i := 0, T := 39, c0 := [vI (hi (z)), .int .u64 (lo (z))] }, { i := 1, T := 46, c0 := [bF, .slice none 0 0] }]) (M' := fun E1 => [((pb E1 0), 39, [vI (hi (z)), .int .u64 (lo (z))]), ((pb E1 1), 46, [bF, .slice none 0 0])]) (hs := c_ (bx0 0 (vW z)) <| c_ (al_ 1) <| e_) (k := fun E1 ac wd h_1 => ?_)
  clear h
  refine then_n (wp_seq ?_)
  refine rf_ h_1 [[0],[0,1],[0,1,2],[3],r_ 5] [K_ (vP (pb E1 0) 0), K_ (vI (hi (z))), KE_ fun env => bigF (hi z) (env 2), KE_ fun env => vP (pb env 3) 0, none] (fun E2 => [(1, vP (pb E1 0) 0), (2, vP (pb E1 1) 0), (3, vP (pb E2 3) 0)]) (W := [{ i := 3, T := 46, c0 := [bF, .slice none 0 0], s := some 4, c1 := fun env => [.bool (decide (hi z < 0)), rS (hi z) ((bA (env 2))) ((bC (env 2)))] }]) (F := [(2, fun env w => BigN w0.heap.size w (env 2) (hi z))]) (L1 := fun E2 => [fun w => BigN w0.heap.size w (E2 2) (hi z)]) (M' := fun E2 => [((pb E1 0), 39, [vI (hi (z)), .int .u64 (lo (z))]), ((pb E1 1), 46, [bF, .slice none 0 0]), ((pb E2 3), 46, [.bool (decide (hi z < 0)), rS (hi z) ((bA (E2 2))) ((bC (E2 2)))])]) (hs := c_ (fa0 (vP (pb E1 0) 0)) <| c_ (ld_ 0 (hrd := by exact rd2 rfl)) <| c_ (cb_ Try.func24 (hi z) (h := fun _ env _ wd hA => ⟨_, Int_any wd (hi z) (by unfold InW at hz; unfold hi; omega) (by unfold InW at hz; unfold hi; omega), rfl⟩)) <| c_ (al_ 2) <| c_ (sw_ 2 3 (hst := by exact fun _ _ _ hc => st46 rfl rfl rfl hc)) <| e_) (k := fun E2 ac wd h_2 => ?_)
  clear h_1
  refine then_n (wp_seq ?_)
  refine rf_ h_2 [[0],[1],[0,1,2],[3],[3,4],r_ 6,r_ 7,r_ 8] [K_ (bigF (hi z) (E2 2)), KE_ fun env => bigF ((2 : Int) ^ (64 : Nat)) (env 1), KE_ fun env => bigF (hi z * (2 : Int) ^ (64 : Nat)) (env 2), K_ (vP (pb E1 0) 1), K_ (.int .u64 (lo (z))), KE_ fun env => bigF (lo z) (env 5), KE_ fun env => bigF (hi z * (2 : Int) ^ (64 : Nat) + lo z) (env 6), none] (fun E3 => [(2, vP (pb E1 1) 0)]) (S := [⟨1, 7, fun env => [.bool (decide (hi z * (2 : Int) ^ (64 : Nat) + lo z < 0)), rS (hi z * (2 : Int) ^ (64 : Nat) + lo z) ((bA (env 6))) ((bC (env 6)))]⟩]) (F := [(1, fun env w => BigN w0.heap.size w (env 1) ((2 : Int) ^ (64 : Nat))), (2, fun env w => BigN w0.heap.size w (env 2) (hi z * (2 : Int) ^ (64 : Nat))), (5, fun env w => BigN w0.heap.size w (env 5) (lo z)), (6, fun env w => BigN w0.heap.size w (env 6) (hi z * (2 : Int) ^ (64 : Nat) + lo z))]) (L1 := fun E3 => [fun w => BigN w0.heap.size w (E2 2) (hi z), fun w => BigN w0.heap.size w (E3 1) ((2 : Int) ^ (64 : Nat)), fun w => BigN w0.heap.size w (E3 2) (hi z * (2 : Int) ^ (64 : Nat)), fun w => BigN w0.heap.size w (E3 5) (lo z), fun w => BigN w0.heap.size w (E3 6) (hi z * (2 : Int) ^ (64 : Nat) + lo z)]) (M' := fun E3 => [((pb E1 0), 39, [vI (hi (z)), .int .u64 (lo (z))]), ((pb E1 1), 46, [.bool (decide (hi z * (2 : Int) ^ (64 : Nat) + lo z < 0)), rS (hi z * (2 : Int) ^ (64 : Nat) + lo z) ((bA (E3 6))) ((bC (E3 6)))]), ((pb E2 3), 46, [.bool (decide (hi z < 0)), rS (hi z) ((bA (E2 2))) ((bC (E2 2)))])]) (hs := c_ (ld_ 2 (hrd := by exact rd46 rfl rfl)) <| c_ (cb_ Try.func35 ((2 : Int) ^ (64 : Nat)) (h := fun _ env _ wd hA => ⟨_, Pow2_any wd 64 (by omega), rfl⟩)) <| c_ (cb_ Try.func34 (hi z * (2 : Int) ^ (64 : Nat)) (h := fun _ env _ wd hA => ⟨_, Mul_any wd (decide (hi z < 0)) (bA (E2 2)) (bC (E2 2)) (hi z) rfl (Facts.bigN (hA.j.st.now).1 0 rfl) (by unfold Sm; unfold InW at hz; unfold hi; omega) (decide ((2 : Int) ^ (64 : Nat) < 0)) (bA (env 1)) (bC (env 1)) ((2 : Int) ^ (64 : Nat)) rfl (At.bigN hA 1 rfl rfl rfl) (by unfold Sm; omega), rfl⟩)) <| c_ (fa0 (vP (pb E1 0) 0)) <| c_ (ld_ 0 (hrd := by exact rd37 rfl)) <| c_ (cb_ Try.func36 (lo z) (h := fun _ env _ wd hA => ⟨_, Word_any wd (lo z) (by unfold lo; omega) (by unfold lo; omega), rfl⟩)) <| c_ (cb_ Try.func22 (hi z * (2 : Int) ^ (64 : Nat) + lo z) (h := fun _ env _ wd hA => ⟨_, Add_any wd (decide (hi z * (2 : Int) ^ (64 : Nat) < 0)) (bA (env 2)) (bC (env 2)) (hi z * (2 : Int) ^ (64 : Nat)) rfl (At.bigN hA 2 rfl rfl rfl) (by unfold Sm; unfold InW at hz; unfold hi; omega) (decide (lo z < 0)) (bA (env 5)) (bC (env 5)) (lo z) rfl (At.bigN hA 5 rfl rfl rfl) (by unfold Sm; unfold lo; omega), rfl⟩)) <| c_ (se_ 1 (hst := by exact fun _ _ _ hc => st46 rfl rfl rfl hc)) <| e_) (k := fun E3 ac wd h_3 => ?_)
  clear h_2
  refine then_n (wp_ret ?_)
  refine lvC (v := bigF (hi z * 2 ^ 64 + lo z) (E3 6)) Try.results14 h_3 1 (rd46 rfl rfl) ?_
  exact ⟨_, rfl, h_3.st.below, BigN.mk (by rw [show hi z * 2 ^ 64 + lo z = z by unfold hi lo; omega]) (by rw [show hi z * 2 ^ 64 + lo z = z by unfold hi lo; omega]) (Facts.bN h_3.st.now 4 rfl)⟩
set_option maxRecDepth 100000 in
set_option maxHeartbeats 8000000 in
theorem digit_any (w0 : World) (A0 B0 : Option Addr) (c0 k0 : Nat) (rr dd : Int) (hR : 0 ≤ rr) (hD : 0 < dd) (hq : rr / dd ≤ 65535) (hS : Sm dd) (hr : Row w0 (.slice A0 (digs rr).length c0) (digs rr)) (hr2 : Row w0 (.slice B0 (digs dd).length k0) (digs dd)) : Calls Try.prog 68 #[.slice A0 ((digs rr).length) c0, .slice B0 ((digs dd).length) k0] w0 fun e w' => e = .returned (vI (rr / dd)) ∧ Below w0.heap.size w0 w' := by
  have hst := St.start w0 (Θ := fun _ => True) (fun _ _ => trivial)
  refine en_ Try.func68 hst 30 [(0, .slice A0 ((digs rr).length) c0), (1, .slice B0 ((digs dd).length) k0)] (fun ac h => ?_)
  replace h := h.facts
  refine wp_seq ?_
  refine rf_ h [[0]] [K_ (vI 0)] (fun E1 => [(0, rS rr A0 c0), (1, rS dd B0 k0), (4, vI 0)]) (hs := c_ mv_ <| e_) (k := fun E1 ac wd h_1 => ?_)
  clear h
  refine then_n (wp_seq ?_)
  refine rf_ h_1 [[0],[0,1]] [K_ (vI 0), K_ (vI 65535)] (fun E2 => [(0, rS rr A0 c0), (1, rS dd B0 k0), (4, vI 0), (5, vI 0), (6, vI 65535)]) (hs := c_ mv_ <| c_ mv_ <| e_) (k := fun E2 ac wd h_2 => ?_)
  clear h_1
  refine then_n (wp_seq (wp_block ?_))
  refine wp_loop (fun ac wd => ∃ (l h : Int), (0 ≤ l ∧ l ≤ rr / dd ∧ rr / dd ≤ h ∧ h ≤ 65535) ∧ Cur 30 w0 none none (Facts []) (fun _ => True) [(0, rS rr A0 c0), (1, rS dd B0 k0), (4, vI 0), (5, vI l), (6, vI h)] [] ac wd) (fun ac _ => (sI ac 6 - sI ac 5).toNat) ⟨0, 65535, ⟨by omega, Int.ediv_nonneg hR (by omega), hq, by omega⟩, (h_2.re rfl).th (fun _ h => h)⟩ ?_
  rintro ac wd ⟨l, h, ⟨h0, h1, h2, h3⟩, h_3⟩
  clear h_2
  have hmu : sI ac 5 = l := sI_eq (h_3.g (t := 5) rfl)
  have hmv : sI ac 6 = h := sI_eq (h_3.g (t := 6) rfl)
  refine wp_seq (wp_seq ?_)
  by_cases h4 : l < h
  refine rf_ h_3 [[0],[1],[0,1,2]] [K_ (vI l), K_ (vI h), K_ bT] (fun E4 => [(0, rS rr A0 c0), (1, rS dd B0 k0), (4, vI 0), (5, vI l), (6, vI h), (8, vI l), (9, vI h), (10, bT)]) (hs := c_ mv_ <| c_ mv_ <| c_ (bi0 (vI l) (vI h)) <| e_) (k := fun E4 ac wd h_4 => ?_)
  clear h_3
  refine then_n ?_
  refine cT_ h_4 ?_
  refine wp_skip (then_n (wp_block (wp_seq ?_)))
  obtain ⟨m, hm⟩ : ∃ m, m = (l + h + 1) / 2 := ⟨_, rfl⟩
  refine rf_ h_4 [[0],[1],[0,1,2],r_ 4,r_ 5,r_ 6] [K_ (vI l), K_ (vI h), K_ (vI (l + h)), K_ (vI ((l + h) + 1)), K_ (vI m), K_ (vI m)] (fun E5 => [(0, rS rr A0 c0), (1, rS dd B0 k0), (4, vI 0), (5, vI l), (6, vI h), (7, vI m), (8, vI l), (9, vI h), (10, bT), (11, vI l), (12, vI h), (13, vI (l + h)), (14, vI ((l + h) + 1)), (15, vI m)]) (hs := c_ mv_ <| c_ mv_ <| c_ (bi0 (vI l) (vI h)) <| c_ (bi0 (vI (l + h)) (vI 1)) <| c_ (bi0 (vI ((l + h) + 1)) (vI 2) (h := by intro env w; simp [go_sem]; rw [Int.tdiv_eq_ediv_of_nonneg (by omega), ← hm]; exact IntWalk.i64_in _ (by omega))) <| c_ mv_ <| e_) (k := fun E5 ac wd h_5 => ?_)
  clear h_4
  refine then_n (wp_seq ?_)
  have hmm := Int.le_ediv_iff_mul_le (a := m) (b := rr) hD
  have h7 : 0 ≤ dd * m := Int.mul_nonneg (by omega) (by omega)
  rw [Int.mul_comm] at hmm
  by_cases h5 : dd * m ≤ rr
  have h6 := hmm.2 h5
  refine rf_ h_5 [[0],[0,1],[2],[2,3],[2,3,4],r_ 6,r_ 7,[7],r_ 9,r_ 10] [K_ (rS dd B0 k0), K_ (.agg #[bF, rS dd B0 k0]), K_ (vI m), K_ (.int .u64 m), KE_ fun env => bigF m (env 4), KE_ fun env => bigF (dd * m) (env 5), KE_ fun env => rS (dd * m) ((bA (env 5))) ((bC (env 5))), K_ (rS rr A0 c0), K_ (vI (cmpZ (dd * m).natAbs rr.natAbs)), K_ bT] (fun E6 => [(0, rS rr A0 c0), (1, rS dd B0 k0), (4, vI 0), (5, vI l), (6, vI h), (7, vI m), (8, vI l), (9, vI h), (10, bT), (11, vI l), (12, vI h), (13, vI (l + h)), (14, vI ((l + h) + 1)), (15, vI m), (16, rS dd B0 k0), (17, .agg #[bF, rS dd B0 k0]), (18, vI m), (19, .int .u64 m), (20, bigF m (E6 4)), (21, bigF (dd * m) (E6 5)), (22, rS (dd * m) ((bA (E6 5))) ((bC (E6 5)))), (23, rS rr A0 c0), (24, vI (cmpZ (dd * m).natAbs rr.natAbs)), (25, bT)]) (F := [(4, fun env w => BigN w0.heap.size w (env 4) m), (5, fun env w => BigN w0.heap.size w (env 5) (dd * m))]) (L1 := fun E6 => [fun w => BigN w0.heap.size w (E6 4) m, fun w => BigN w0.heap.size w (E6 5) (dd * m)]) (hs := c_ mv_ <| c_ (bd0 ([rS dd B0 k0])) <| c_ mv_ <| c_ (cv0 (vI m) (h := by intro env w; (first | (simp [go_sem]; done) | (simp [go_sem]; exact IntWalk.u64_in _ (by omega))))) <| c_ (cb_ Try.func36 m (h := fun _ env _ wd hA => ⟨_, Word_any wd m (by omega) (by omega), rfl⟩)) <| c_ (cb_ Try.func34 (dd * m) (h := fun _ env _ wd hA => ⟨_, Mul_any wd false B0 k0 dd (decide_eq_false (by omega)).symm (hr2.grown hA.j.st.gr) hS (decide (m < 0)) (bA (env 4)) (bC (env 4)) m rfl (At.bigN hA 4 rfl rfl rfl) (by unfold Sm; omega), rfl⟩)) <| c_ (fl_ (fun env => bigF (dd * m) (env 5))) <| c_ mv_ <| c_ (cw_ Try.func46 (h := fun _ env _ wd hA => ⟨_, cmp_abs wd (bA (env 5)) A0 (bC (env 5)) c0 (dd * m) rr (At.bigN hA 5 rfl rfl rfl) (hr.grown hA.j.st.gr), rfl⟩)) <| c_ (bi0 (vI (cmpZ (dd * m).natAbs rr.natAbs)) (vI 0) (h := by intro env w; simp [go_sem]; unfold cmpZ; split <;> (try split) <;> omega)) <| e_) (k := fun E6 ac wd h_6 => ?_)
  clear h_5
  refine then_n ?_
  refine cT_ h_6 ?_
  refine rf_ h_6 [[0],[0,1]] [K_ (vI m), K_ (vI m)] (fun E7 => [(0, rS rr A0 c0), (1, rS dd B0 k0), (4, vI 0), (5, vI m), (6, vI h), (7, vI m), (8, vI l), (9, vI h), (10, bT), (11, vI l), (12, vI h), (13, vI (l + h)), (14, vI ((l + h) + 1)), (15, vI m), (16, rS dd B0 k0), (17, .agg #[bF, rS dd B0 k0]), (18, vI m), (19, .int .u64 m), (20, bigF m (E6 4)), (21, bigF (dd * m) (E6 5)), (22, rS (dd * m) ((bA (E6 5))) ((bC (E6 5)))), (23, rS rr A0 c0), (24, vI (cmpZ (dd * m).natAbs rr.natAbs)), (25, bT), (26, vI m)]) (hs := c_ mv_ <| c_ mv_ <| e_) (k := fun E7 ac wd h_7 => ?_)
  clear h_6
  refine blk_n (then_n ?_)
  exact ⟨⟨m, h, ⟨by omega, by omega, by omega, by omega⟩, h_7.facts.re rfl⟩, by rw [sI_eq (h_7.g (t := 5) rfl), sI_eq (h_7.g (t := 6) rfl), hmu, hmv]; omega⟩
  have h6 := fun h => h5 (hmm.1 h)
  refine rf_ h_5 [[0],[0,1],[2],[2,3],[2,3,4],r_ 6,r_ 7,[7],r_ 9,r_ 10] [K_ (rS dd B0 k0), K_ (.agg #[bF, rS dd B0 k0]), K_ (vI m), K_ (.int .u64 m), KE_ fun env => bigF m (env 4), KE_ fun env => bigF (dd * m) (env 5), KE_ fun env => rS (dd * m) ((bA (env 5))) ((bC (env 5))), K_ (rS rr A0 c0), K_ (vI (cmpZ (dd * m).natAbs rr.natAbs)), K_ bF] (fun E6 => [(0, rS rr A0 c0), (1, rS dd B0 k0), (4, vI 0), (5, vI l), (6, vI h), (7, vI m), (8, vI l), (9, vI h), (10, bT), (11, vI l), (12, vI h), (13, vI (l + h)), (14, vI ((l + h) + 1)), (15, vI m), (16, rS dd B0 k0), (17, .agg #[bF, rS dd B0 k0]), (18, vI m), (19, .int .u64 m), (20, bigF m (E6 4)), (21, bigF (dd * m) (E6 5)), (22, rS (dd * m) ((bA (E6 5))) ((bC (E6 5)))), (23, rS rr A0 c0), (24, vI (cmpZ (dd * m).natAbs rr.natAbs)), (25, bF)]) (F := [(4, fun env w => BigN w0.heap.size w (env 4) m), (5, fun env w => BigN w0.heap.size w (env 5) (dd * m))]) (L1 := fun E6 => [fun w => BigN w0.heap.size w (E6 4) m, fun w => BigN w0.heap.size w (E6 5) (dd * m)]) (hs := c_ mv_ <| c_ (bd0 ([rS dd B0 k0])) <| c_ mv_ <| c_ (cv0 (vI m) (h := by intro env w; (first | (simp [go_sem]; done) | (simp [go_sem]; exact IntWalk.u64_in _ (by omega))))) <| c_ (cb_ Try.func36 m (h := fun _ env _ wd hA => ⟨_, Word_any wd m (by omega) (by omega), rfl⟩)) <| c_ (cb_ Try.func34 (dd * m) (h := fun _ env _ wd hA => ⟨_, Mul_any wd false B0 k0 dd (decide_eq_false (by omega)).symm (hr2.grown hA.j.st.gr) hS (decide (m < 0)) (bA (env 4)) (bC (env 4)) m rfl (At.bigN hA 4 rfl rfl rfl) (by unfold Sm; omega), rfl⟩)) <| c_ (fl_ (fun env => bigF (dd * m) (env 5))) <| c_ mv_ <| c_ (cw_ Try.func46 (h := fun _ env _ wd hA => ⟨_, cmp_abs wd (bA (env 5)) A0 (bC (env 5)) c0 (dd * m) rr (At.bigN hA 5 rfl rfl rfl) (hr.grown hA.j.st.gr), rfl⟩)) <| c_ (bi0 (vI (cmpZ (dd * m).natAbs rr.natAbs)) (vI 0) (h := by intro env w; simp [go_sem]; unfold cmpZ; split <;> (try split) <;> omega)) <| e_) (k := fun E6 ac wd h_6 => ?_)
  clear h_5
  refine then_n ?_
  refine cF_ h_6 ?_
  refine rf_ h_6 (tri 3) [K_ (vI m), K_ (vI (m - 1)), K_ (vI (m - 1))] (fun E7 => [(0, rS rr A0 c0), (1, rS dd B0 k0), (4, vI 0), (5, vI l), (6, vI (m - 1)), (7, vI m), (8, vI l), (9, vI h), (10, bT), (11, vI l), (12, vI h), (13, vI (l + h)), (14, vI ((l + h) + 1)), (15, vI m), (16, rS dd B0 k0), (17, .agg #[bF, rS dd B0 k0]), (18, vI m), (19, .int .u64 m), (20, bigF m (E6 4)), (21, bigF (dd * m) (E6 5)), (22, rS (dd * m) ((bA (E6 5))) ((bC (E6 5)))), (23, rS rr A0 c0), (24, vI (cmpZ (dd * m).natAbs rr.natAbs)), (25, bF), (27, vI m), (28, vI (m - 1))]) (hs := c_ mv_ <| c_ (bi0 (vI m) (vI 1)) <| c_ mv_ <| e_) (k := fun E7 ac wd h_7 => ?_)
  clear h_6
  refine blk_n (then_n ?_)
  exact ⟨⟨l, m - 1, ⟨by omega, by omega, by omega, by omega⟩, h_7.facts.re rfl⟩, by rw [sI_eq (h_7.g (t := 5) rfl), sI_eq (h_7.g (t := 6) rfl), hmu, hmv]; omega⟩
  refine rf_ h_3 [[0],[1],[0,1,2]] [K_ (vI l), K_ (vI h), K_ bF] (fun E4 => [(0, rS rr A0 c0), (1, rS dd B0 k0), (4, vI 0), (5, vI l), (6, vI h), (8, vI l), (9, vI h), (10, bF)]) (hs := c_ mv_ <| c_ mv_ <| c_ (bi0 (vI l) (vI h)) <| e_) (k := fun E4 ac wd h_4 => ?_)
  clear h_3
  refine then_n ?_
  refine cF_ h_4 ?_
  refine wp_exit (then_e (then_e (blk_x (then_n (wp_seq ?_)))))
  refine rf_ h_4 [[0],[0,1]] [K_ (vI l), K_ (vI l)] (fun E5 => [(4, vI l)]) (hs := c_ mv_ <| c_ mv_ <| e_) (k := fun E5 ac wd h_5 => ?_)
  clear h_4
  refine then_n (wp_ret ?_)
  refine lvT Try.results68 h_5 ?_
  exact ⟨by rw [show rr / dd = l by omega], h_5.st.below⟩
/-- c digits of four, from the top, at place o -/
def wdN (ds : List Int) (o : Nat) : Nat → Int
  | 0 => 0
  | c + 1 => wdN ds o c * 65536 + ds.getD (o + 3 - c) 0
theorem wdN_lt {ds : List Int} (hg : Rg ds) (o : Nat) : ∀ c, 0 ≤ wdN ds o c ∧ wdN ds o c < 65536 ^ c
  | 0 => by simp [wdN]
  | c + 1 => by
    have := wdN_lt hg o c
    have := hg.getD (o + 3 - c)
    simp only [wdN, Int.pow_succ]
    omega
theorem wdN_48 {ds : List Int} (hg : Rg ds) (o : Nat) {c : Nat} (hc : c ≤ 3) : 0 ≤ wdN ds o c ∧ wdN ds o c < 281474976710656 := by
  have h := wdN_lt hg o c
  have h1 := pow_mono hc
  have e : (65536 : Int) ^ 3 = 281474976710656 := rfl
  rw [e] at h1
  omega
end Go.Proofs.Ytdfkghpgekmmlaa

/- epactref01: Of, digit (printed by my walk.py) -/
import Derived.Test.YtibdhpffdkiggaaGreatE8
import Derived.Test.YtibdhpffdkiggaaGreatL4
import Derived.Test.YtibdhpffdkiggaaGreatM3
import Derived.IntWalk
namespace Go.Proofs.YtibdhpffdkiggaaGreat
open Go.RowKit
set_option linter.unusedVariables false
set_option linter.unusedSimpArgs false
attribute [local go_sem] vN bT bF rS vW vM vL vT2 vT3 vP vI execOp Act.eval evC bigF vB hi_zero lo_zero Tryz.underlying3 Tryz.underlying32 Tryz.underlying34 Tryz.underlying42

theorem hi_lo' {w : Int} : hi w * 18446744073709551616 + lo w = w := by unfold hi lo; omega
set_option maxRecDepth 100000 in
set_option maxHeartbeats 8000000 in
theorem Of_any (w0 : World) (z : Int) (hz : InW z) : Calls Tryz.prog 11 #[vW z] w0 fun e w' => ∃ v, e = .returned v ∧ Below w0.heap.size w0 w' ∧ BigN w0.heap.size w' v (z) := by
  have hst := St.start w0 (Θ := fun _ => True) (fun _ _ => trivial)
  refine enter Tryz.func11 rfl (n := 14) rfl (Nat.le_of_ble_eq_true rfl) hst (L := [(0, vW z)]) (lk_args rfl) (fun ac h => ?_)
  replace h := h.facts
  refine wp_seq ?_
  refine rf_ h [[0],[1]] [KE_ fun env => vP (pb env 0) 0, KE_ fun env => vP (pb env 1) 0] (fun E1 => [(1, vP (pb E1 0) 0), (2, vP (pb E1 1) 0)]) (W := [{ i := 0, T := 34, c0 := [vI (hi (z)), .int .u64 (lo (z))] }, { i := 1, T := 42, c0 := [bF, .slice none 0 0] }]) (M' := fun E1 => [((pb E1 0), 34, [vI (hi (z)), .int .u64 (lo (z))]), ((pb E1 1), 42, [bF, .slice none 0 0])]) (hs := c_ (bx0 0 (vW z)) <| c_ (al_ 1) <| e_) (k := fun E1 ac wd h_1 => ?_)
  clear h
  refine then_n (wp_seq ?_)
  refine rf_ h_1 [[0],[0,1],[0,1,2],[3],r_ 5] [K_ (vP (pb E1 0) 0), K_ (vI (hi (z))), KE_ fun env => bigF (hi z) (env 2), KE_ fun env => vP (pb env 3) 0, none] (fun E2 => [(1, vP (pb E1 0) 0), (2, vP (pb E1 1) 0), (3, vP (pb E2 3) 0)]) (W := [{ i := 3, T := 42, c0 := [bF, .slice none 0 0], s := some 4, c1 := fun env => [.bool (decide (hi z < 0)), rS (hi z) ((bA (env 2))) ((bC (env 2)))] }]) (F := [(2, fun env w => BigN w0.heap.size w (env 2) (hi z))]) (L1 := fun E2 => [fun w => BigN w0.heap.size w (E2 2) (hi z)]) (M' := fun E2 => [((pb E1 0), 34, [vI (hi (z)), .int .u64 (lo (z))]), ((pb E1 1), 42, [bF, .slice none 0 0]), ((pb E2 3), 42, [.bool (decide (hi z < 0)), rS (hi z) ((bA (E2 2))) ((bC (E2 2)))])]) (hs := c_ (fa0 (vP (pb E1 0) 0)) <| c_ (ld_ 0 (hrd := by exact rd2 rfl)) <| c_ (cb_ Tryz.func25 (hi z) (h := fun _ env _ wd hA => ⟨_, Int_any wd (hi z) (by unfold InW at hz; unfold hi; omega) (by unfold InW at hz; unfold hi; omega), rfl⟩)) <| c_ (al_ 2) <| c_ (sw_ 2 3 (hst := by exact fun _ _ _ hc => st42 rfl rfl rfl hc)) <| e_) (k := fun E2 ac wd h_2 => ?_)
  clear h_1
  refine then_n (wp_seq ?_)
  refine rf_ h_2 [[0],[1],[0,1,2],[3],[3,4],r_ 6,r_ 7,r_ 8] [K_ (bigF (hi z) (E2 2)), KE_ fun env => bigF ((2 : Int) ^ (64 : Nat)) (env 1), KE_ fun env => bigF (hi z * (2 : Int) ^ (64 : Nat)) (env 2), K_ (vP (pb E1 0) 1), K_ (.int .u64 (lo (z))), KE_ fun env => bigF (lo z) (env 5), KE_ fun env => bigF (hi z * (2 : Int) ^ (64 : Nat) + lo z) (env 6), none] (fun E3 => [(2, vP (pb E1 1) 0)]) (S := [⟨1, 7, fun env => [.bool (decide (hi z * (2 : Int) ^ (64 : Nat) + lo z < 0)), rS (hi z * (2 : Int) ^ (64 : Nat) + lo z) ((bA (env 6))) ((bC (env 6)))]⟩]) (F := [(1, fun env w => BigN w0.heap.size w (env 1) ((2 : Int) ^ (64 : Nat))), (2, fun env w => BigN w0.heap.size w (env 2) (hi z * (2 : Int) ^ (64 : Nat))), (5, fun env w => BigN w0.heap.size w (env 5) (lo z)), (6, fun env w => BigN w0.heap.size w (env 6) (hi z * (2 : Int) ^ (64 : Nat) + lo z))]) (L1 := fun E3 => [fun w => BigN w0.heap.size w (E2 2) (hi z), fun w => BigN w0.heap.size w (E3 1) ((2 : Int) ^ (64 : Nat)), fun w => BigN w0.heap.size w (E3 2) (hi z * (2 : Int) ^ (64 : Nat)), fun w => BigN w0.heap.size w (E3 5) (lo z), fun w => BigN w0.heap.size w (E3 6) (hi z * (2 : Int) ^ (64 : Nat) + lo z)]) (M' := fun E3 => [((pb E1 0), 34, [vI (hi (z)), .int .u64 (lo (z))]), ((pb E1 1), 42, [.bool (decide (hi z * (2 : Int) ^ (64 : Nat) + lo z < 0)), rS (hi z * (2 : Int) ^ (64 : Nat) + lo z) ((bA (E3 6))) ((bC (E3 6)))]), ((pb E2 3), 42, [.bool (decide (hi z < 0)), rS (hi z) ((bA (E2 2))) ((bC (E2 2)))])]) (hs := c_ (ld_ 2 (hrd := by exact rd42 rfl rfl)) <| c_ (cb_ Tryz.func28 ((2 : Int) ^ (64 : Nat)) (h := fun _ env _ wd hA => ⟨_, Pow2_any wd 64 (by omega), rfl⟩)) <| c_ (cb_ Tryz.func27 (hi z * (2 : Int) ^ (64 : Nat)) (h := fun _ env _ wd hA => ⟨_, Mul_any wd (decide (hi z < 0)) (bA (E2 2)) (bC (E2 2)) (hi z) rfl (Facts.bigN (hA.j.st.now).1 0 rfl) (by unfold Sm; unfold InW at hz; unfold hi; omega) (decide ((2 : Int) ^ (64 : Nat) < 0)) (bA (env 1)) (bC (env 1)) ((2 : Int) ^ (64 : Nat)) rfl (At.bigN hA 1 rfl rfl rfl) (by unfold Sm; omega), rfl⟩)) <| c_ (fa0 (vP (pb E1 0) 0)) <| c_ (ld_ 0 (hrd := by exact rd32 rfl)) <| c_ (cb_ Tryz.func29 (lo z) (h := fun _ env _ wd hA => ⟨_, Word_any wd (lo z) (by unfold lo; omega) (by unfold lo; omega), rfl⟩)) <| c_ (cb_ Tryz.func26 (hi z * (2 : Int) ^ (64 : Nat) + lo z) (h := fun _ env _ wd hA => ⟨_, Add_any wd (decide (hi z * (2 : Int) ^ (64 : Nat) < 0)) (bA (env 2)) (bC (env 2)) (hi z * (2 : Int) ^ (64 : Nat)) rfl (At.bigN hA 2 rfl rfl rfl) (by unfold Sm; unfold InW at hz; unfold hi; omega) (decide (lo z < 0)) (bA (env 5)) (bC (env 5)) (lo z) rfl (At.bigN hA 5 rfl rfl rfl) (by unfold Sm; unfold lo; omega), rfl⟩)) <| c_ (se_ 1 (hst := by exact fun _ _ _ hc => st42 rfl rfl rfl hc)) <| e_) (k := fun E3 ac wd h_3 => ?_)
  clear h_2
  refine then_n (wp_ret ?_)
  have s2 := h_3.g (t := 2) rfl
  have hc2 := (h_3.st.own 1 _ rfl).2
  have c2_0 := own_cell (o := 0) hc2 rfl
  have c2_1 := own_cell (o := 1) hc2 rfl
  refine leave (v := bigF (hi z * 2 ^ 64 + lo z) (E3 6)) h_3.df (by simp [results, Tryz.results11, go_sem, Array.getD_eq_getD_getElem?, s2, c2_0, c2_1, Tryz.underlying42]) ?_
  exact ⟨_, rfl, h_3.st.below, BigN.mk (by rw [show hi z * 2 ^ 64 + lo z = z by unfold hi lo; omega]) (by rw [show hi z * 2 ^ 64 + lo z = z by unfold hi lo; omega]) (Facts.bN h_3.st.now 4 rfl)⟩
set_option maxRecDepth 100000 in
set_option maxHeartbeats 8000000 in
theorem digit_any (w0 : World) (A0 B0 : Option Addr) (c0 k0 : Nat) (rr dd : Int) (hR : 0 ≤ rr) (hD : 0 < dd) (hq : rr / dd ≤ 65535) (hS : Sm dd) (hr : Row w0 (.slice A0 (digs rr).length c0) (digs rr)) (hr2 : Row w0 (.slice B0 (digs dd).length k0) (digs dd)) : Calls Tryz.prog 76 #[.slice A0 ((digs rr).length) c0, .slice B0 ((digs dd).length) k0] w0 fun e w' => e = .returned (vI (rr / dd)) ∧ Below w0.heap.size w0 w' := by
  have hst := St.start w0 (Θ := fun _ => True) (fun _ _ => trivial)
  refine enter Tryz.func76 rfl (n := 30) rfl (Nat.le_of_ble_eq_true rfl) hst (L := [(0, .slice A0 ((digs rr).length) c0), (1, .slice B0 ((digs dd).length) k0)]) (lk_args rfl) (fun ac h => ?_)
  replace h := h.facts
  refine wp_seq ?_
  refine rf_ h [[0]] [K_ (vI 0)] (fun E1 => [(0, rS rr A0 c0), (1, rS dd B0 k0), (4, vI 0)]) (hs := c_ mv_ <| e_) (k := fun E1 ac wd h_1 => ?_)
  clear h
  refine then_n (wp_seq ?_)
  refine rf_ h_1 [[0],[0,1]] [K_ (vI 0), K_ (vI 65535)] (fun E2 => [(0, rS rr A0 c0), (1, rS dd B0 k0), (4, vI 0), (5, vI 0), (6, vI 65535)]) (hs := c_ mv_ <| c_ mv_ <| e_) (k := fun E2 ac wd h_2 => ?_)
  clear h_1
  refine then_n (wp_seq (wp_block ?_))
  refine wp_loop (fun ac wd => ∃ (l h : Int), (0 ≤ l ∧ l ≤ rr / dd ∧ rr / dd ≤ h ∧ h ≤ 65535) ∧ Cur 30 w0 none none (Facts []) (fun _ => True) [(0, rS rr A0 c0), (1, rS dd B0 k0), (4, vI 0), (5, vI l), (6, vI h)] [] ac wd) (fun ac _ => (sI ac 6 - sI ac 5).toNat) ⟨0, 65535, ⟨by omega, Int.ediv_nonneg hR (by omega), hq, by omega⟩, (h_2.re rfl).th (fun _ h => h)⟩ ?_
  rintro ac wd ⟨l, h, ⟨h0, h1, h2, h3⟩, h_3⟩
  clear h_2
  have hmu : sI ac 5 = l := sI_eq (h_3.g (t := 5) rfl)
  have hmv : sI ac 6 = h := sI_eq (h_3.g (t := 6) rfl)
  refine wp_seq (wp_seq ?_)
  by_cases h4 : l < h
  refine rf_ h_3 [[0],[1],[0,1,2]] [K_ (vI l), K_ (vI h), K_ bT] (fun E4 => [(0, rS rr A0 c0), (1, rS dd B0 k0), (4, vI 0), (5, vI l), (6, vI h), (8, vI l), (9, vI h), (10, bT)]) (hs := c_ mv_ <| c_ mv_ <| c_ (bi0 (vI l) (vI h)) <| e_) (k := fun E4 ac wd h_4 => ?_)
  clear h_3
  refine then_n ?_
  refine wp_cond_true (eval_tmp (h_4.g (t := 10) rfl)) ?_
  refine wp_skip (then_n (wp_block (wp_seq ?_)))
  obtain ⟨m, hm⟩ : ∃ m, m = (l + h + 1) / 2 := ⟨_, rfl⟩
  refine rf_ h_4 [[0],[1],[0,1,2],r_ 4,r_ 5,r_ 6] [K_ (vI l), K_ (vI h), K_ (vI (l + h)), K_ (vI ((l + h) + 1)), K_ (vI m), K_ (vI m)] (fun E5 => [(0, rS rr A0 c0), (1, rS dd B0 k0), (4, vI 0), (5, vI l), (6, vI h), (7, vI m), (8, vI l), (9, vI h), (10, bT), (11, vI l), (12, vI h), (13, vI (l + h)), (14, vI ((l + h) + 1)), (15, vI m)]) (hs := c_ mv_ <| c_ mv_ <| c_ (bi0 (vI l) (vI h)) <| c_ (bi0 (vI (l + h)) (vI 1)) <| c_ (bi0 (vI ((l + h) + 1)) (vI 2) (h := by intro env w; simp [go_sem]; rw [Int.tdiv_eq_ediv_of_nonneg (by omega), ← hm]; exact IntWalk.i64_in _ (by omega))) <| c_ mv_ <| e_) (k := fun E5 ac wd h_5 => ?_)
  clear h_4
  refine then_n (wp_seq ?_)
  have hmm := Int.le_ediv_iff_mul_le (a := m) (b := rr) hD
  have h7 : 0 ≤ dd * m := Int.mul_nonneg (by omega) (by omega)
  rw [Int.mul_comm] at hmm
  by_cases h5 : dd * m ≤ rr
  have h6 := hmm.2 h5
  refine rf_ h_5 [[0],[0,1],[2],[2,3],[2,3,4],r_ 6,r_ 7,[7],r_ 9,r_ 10] [K_ (rS dd B0 k0), K_ (.agg #[bF, rS dd B0 k0]), K_ (vI m), K_ (.int .u64 m), KE_ fun env => bigF m (env 4), KE_ fun env => bigF (dd * m) (env 5), KE_ fun env => rS (dd * m) ((bA (env 5))) ((bC (env 5))), K_ (rS rr A0 c0), K_ (vI (cmpZ (dd * m).natAbs rr.natAbs)), K_ bT] (fun E6 => [(0, rS rr A0 c0), (1, rS dd B0 k0), (4, vI 0), (5, vI l), (6, vI h), (7, vI m), (8, vI l), (9, vI h), (10, bT), (11, vI l), (12, vI h), (13, vI (l + h)), (14, vI ((l + h) + 1)), (15, vI m), (16, rS dd B0 k0), (17, .agg #[bF, rS dd B0 k0]), (18, vI m), (19, .int .u64 m), (20, bigF m (E6 4)), (21, bigF (dd * m) (E6 5)), (22, rS (dd * m) ((bA (E6 5))) ((bC (E6 5)))), (23, rS rr A0 c0), (24, vI (cmpZ (dd * m).natAbs rr.natAbs)), (25, bT)]) (F := [(4, fun env w => BigN w0.heap.size w (env 4) m), (5, fun env w => BigN w0.heap.size w (env 5) (dd * m))]) (L1 := fun E6 => [fun w => BigN w0.heap.size w (E6 4) m, fun w => BigN w0.heap.size w (E6 5) (dd * m)]) (hs := c_ mv_ <| c_ (bd0 ([rS dd B0 k0])) <| c_ mv_ <| c_ (cv0 (vI m) (h := by intro env w; (first | (simp [go_sem]; done) | (simp [go_sem]; exact IntWalk.u64_in _ (by omega))))) <| c_ (cb_ Tryz.func29 m (h := fun _ env _ wd hA => ⟨_, Word_any wd m (by omega) (by omega), rfl⟩)) <| c_ (cb_ Tryz.func27 (dd * m) (h := fun _ env _ wd hA => ⟨_, Mul_any wd false B0 k0 dd (decide_eq_false (by omega)).symm (hr2.grown hA.j.st.gr) hS (decide (m < 0)) (bA (env 4)) (bC (env 4)) m rfl (At.bigN hA 4 rfl rfl rfl) (by unfold Sm; omega), rfl⟩)) <| c_ (fl_ (fun env => bigF (dd * m) (env 5))) <| c_ mv_ <| c_ (cw_ Tryz.func51 (h := fun _ env _ wd hA => ⟨_, cmp_abs wd (bA (env 5)) A0 (bC (env 5)) c0 (dd * m) rr (At.bigN hA 5 rfl rfl rfl) (hr.grown hA.j.st.gr), rfl⟩)) <| c_ (bi0 (vI (cmpZ (dd * m).natAbs rr.natAbs)) (vI 0) (h := by intro env w; simp [go_sem]; unfold cmpZ; split <;> (try split) <;> omega)) <| e_) (k := fun E6 ac wd h_6 => ?_)
  clear h_5
  refine then_n ?_
  refine wp_cond_true (eval_tmp (h_6.g (t := 25) rfl)) ?_
  refine rf_ h_6 [[0],[0,1]] [K_ (vI m), K_ (vI m)] (fun E7 => [(0, rS rr A0 c0), (1, rS dd B0 k0), (4, vI 0), (5, vI m), (6, vI h), (7, vI m), (8, vI l), (9, vI h), (10, bT), (11, vI l), (12, vI h), (13, vI (l + h)), (14, vI ((l + h) + 1)), (15, vI m), (16, rS dd B0 k0), (17, .agg #[bF, rS dd B0 k0]), (18, vI m), (19, .int .u64 m), (20, bigF m (E6 4)), (21, bigF (dd * m) (E6 5)), (22, rS (dd * m) ((bA (E6 5))) ((bC (E6 5)))), (23, rS rr A0 c0), (24, vI (cmpZ (dd * m).natAbs rr.natAbs)), (25, bT), (26, vI m)]) (hs := c_ mv_ <| c_ mv_ <| e_) (k := fun E7 ac wd h_7 => ?_)
  clear h_6
  refine blk_n (then_n ?_)
  exact ⟨⟨m, h, ⟨by omega, by omega, by omega, by omega⟩, h_7.facts.re rfl⟩, by rw [sI_eq (h_7.g (t := 5) rfl), sI_eq (h_7.g (t := 6) rfl), hmu, hmv]; omega⟩
  have h6 := fun h => h5 (hmm.1 h)
  refine rf_ h_5 [[0],[0,1],[2],[2,3],[2,3,4],r_ 6,r_ 7,[7],r_ 9,r_ 10] [K_ (rS dd B0 k0), K_ (.agg #[bF, rS dd B0 k0]), K_ (vI m), K_ (.int .u64 m), KE_ fun env => bigF m (env 4), KE_ fun env => bigF (dd * m) (env 5), KE_ fun env => rS (dd * m) ((bA (env 5))) ((bC (env 5))), K_ (rS rr A0 c0), K_ (vI (cmpZ (dd * m).natAbs rr.natAbs)), K_ bF] (fun E6 => [(0, rS rr A0 c0), (1, rS dd B0 k0), (4, vI 0), (5, vI l), (6, vI h), (7, vI m), (8, vI l), (9, vI h), (10, bT), (11, vI l), (12, vI h), (13, vI (l + h)), (14, vI ((l + h) + 1)), (15, vI m), (16, rS dd B0 k0), (17, .agg #[bF, rS dd B0 k0]), (18, vI m), (19, .int .u64 m), (20, bigF m (E6 4)), (21, bigF (dd * m) (E6 5)), (22, rS (dd * m) ((bA (E6 5))) ((bC (E6 5)))), (23, rS rr A0 c0), (24, vI (cmpZ (dd * m).natAbs rr.natAbs)), (25, bF)]) (F := [(4, fun env w => BigN w0.heap.size w (env 4) m), (5, fun env w => BigN w0.heap.size w (env 5) (dd * m))]) (L1 := fun E6 => [fun w => BigN w0.heap.size w (E6 4) m, fun w => BigN w0.heap.size w (E6 5) (dd * m)]) (hs := c_ mv_ <| c_ (bd0 ([rS dd B0 k0])) <| c_ mv_ <| c_ (cv0 (vI m) (h := by intro env w; (first | (simp [go_sem]; done) | (simp [go_sem]; exact IntWalk.u64_in _ (by omega))))) <| c_ (cb_ Tryz.func29 m (h := fun _ env _ wd hA => ⟨_, Word_any wd m (by omega) (by omega), rfl⟩)) <| c_ (cb_ Tryz.func27 (dd * m) (h := fun _ env _ wd hA => ⟨_, Mul_any wd false B0 k0 dd (decide_eq_false (by omega)).symm (hr2.grown hA.j.st.gr) hS (decide (m < 0)) (bA (env 4)) (bC (env 4)) m rfl (At.bigN hA 4 rfl rfl rfl) (by unfold Sm; omega), rfl⟩)) <| c_ (fl_ (fun env => bigF (dd * m) (env 5))) <| c_ mv_ <| c_ (cw_ Tryz.func51 (h := fun _ env _ wd hA => ⟨_, cmp_abs wd (bA (env 5)) A0 (bC (env 5)) c0 (dd * m) rr (At.bigN hA 5 rfl rfl rfl) (hr.grown hA.j.st.gr), rfl⟩)) <| c_ (bi0 (vI (cmpZ (dd * m).natAbs rr.natAbs)) (vI 0) (h := by intro env w; simp [go_sem]; unfold cmpZ; split <;> (try split) <;> omega)) <| e_) (k := fun E6 ac wd h_6 => ?_)
  clear h_5
  refine then_n ?_
  refine wp_cond_false (eval_tmp (h_6.g (t := 25) rfl)) ?_
  refine rf_ h_6 (tri 3) [K_ (vI m), K_ (vI (m - 1)), K_ (vI (m - 1))] (fun E7 => [(0, rS rr A0 c0), (1, rS dd B0 k0), (4, vI 0), (5, vI l), (6, vI (m - 1)), (7, vI m), (8, vI l), (9, vI h), (10, bT), (11, vI l), (12, vI h), (13, vI (l + h)), (14, vI ((l + h) + 1)), (15, vI m), (16, rS dd B0 k0), (17, .agg #[bF, rS dd B0 k0]), (18, vI m), (19, .int .u64 m), (20, bigF m (E6 4)), (21, bigF (dd * m) (E6 5)), (22, rS (dd * m) ((bA (E6 5))) ((bC (E6 5)))), (23, rS rr A0 c0), (24, vI (cmpZ (dd * m).natAbs rr.natAbs)), (25, bF), (27, vI m), (28, vI (m - 1))]) (hs := c_ mv_ <| c_ (bi0 (vI m) (vI 1)) <| c_ mv_ <| e_) (k := fun E7 ac wd h_7 => ?_)
  clear h_6
  refine blk_n (then_n ?_)
  exact ⟨⟨l, m - 1, ⟨by omega, by omega, by omega, by omega⟩, h_7.facts.re rfl⟩, by rw [sI_eq (h_7.g (t := 5) rfl), sI_eq (h_7.g (t := 6) rfl), hmu, hmv]; omega⟩
  refine rf_ h_3 [[0],[1],[0,1,2]] [K_ (vI l), K_ (vI h), K_ bF] (fun E4 => [(0, rS rr A0 c0), (1, rS dd B0 k0), (4, vI 0), (5, vI l), (6, vI h), (8, vI l), (9, vI h), (10, bF)]) (hs := c_ mv_ <| c_ mv_ <| c_ (bi0 (vI l) (vI h)) <| e_) (k := fun E4 ac wd h_4 => ?_)
  clear h_3
  refine then_n ?_
  refine wp_cond_false (eval_tmp (h_4.g (t := 10) rfl)) ?_
  refine wp_exit (then_e (then_e (blk_x (then_n (wp_seq ?_)))))
  refine rf_ h_4 [[0],[0,1]] [K_ (vI l), K_ (vI l)] (fun E5 => [(4, vI l)]) (hs := c_ mv_ <| c_ mv_ <| e_) (k := fun E5 ac wd h_5 => ?_)
  clear h_4
  refine then_n (wp_ret ?_)
  have s4 := h_5.g (t := 4) rfl
  refine leave (v := vI l) h_5.df (by simp [results, Tryz.results76, go_sem, Array.getD_eq_getD_getElem?, s4]) ?_
  exact ⟨by rw [show rr / dd = l by omega], h_5.st.below⟩
/-- c digits of four, from the top, at place o -/
def wdN (ds : List Int) (o : Nat) : Nat → Int
  | 0 => 0
  | c + 1 => wdN ds o c * 65536 + ds.getD (o + 3 - c) 0
theorem wdN_lt {ds : List Int} (hg : Rg ds) (o : Nat) : ∀ c, 0 ≤ wdN ds o c ∧ wdN ds o c < 65536 ^ c
  | 0 => by simp [wdN]
  | c + 1 => by
    have := wdN_lt hg o c
    have := hg.getD (o + 3 - c)
    simp only [wdN, Int.pow_succ]
    omega
theorem wdN_48 {ds : List Int} (hg : Rg ds) (o : Nat) {c : Nat} (hc : c ≤ 3) : 0 ≤ wdN ds o c ∧ wdN ds o c < 281474976710656 := by
  have h := wdN_lt hg o c
  have h1 := pow_mono hc
  have e : (65536 : Int) ^ 3 = 281474976710656 := rfl
  rw [e] at h1
  omega
set_option maxRecDepth 100000 in
set_option maxHeartbeats 8000000 in
theorem word_core (w0 : World) (A0 : Option Addr) (c0 : Nat) (z : Int) (o : Nat) (ho : o ≤ 100) (hr : Row w0 (.slice A0 (digs z).length c0) (digs z)) : Calls Tryz.prog 89 #[.slice A0 ((digs z).length) c0, vI (((o : Nat) : Int))] w0 fun e w' => e = .returned (.int .u64 (wdN (digs z) o 4)) ∧ Below w0.heap.size w0 w' := by
  have hle := hr.le
  have hst := St.start w0 (Θ := fun _ => True) (fun _ _ => trivial)
  refine enter Tryz.func89 rfl (n := 29) rfl (Nat.le_of_ble_eq_true rfl) hst (L := [(0, .slice A0 ((digs z).length) c0), (1, vI (((o : Nat) : Int)))]) (lk_args rfl) (fun ac h => ?_)
  refine wp_seq ?_
  refine rg_ h [[0]] [K_ (.int .u64 0)] (fun E1 => [(0, rS z A0 c0), (1, vN o), (4, .int .u64 0)]) (hs := c_ mv_ <| e_) (k := fun E1 ac wd h_1 => ?_)
  clear h
  refine then_n (wp_seq ?_)
  refine rg_ h_1 [[0]] [K_ (.int .u64 0)] (fun E2 => [(0, rS z A0 c0), (1, vN o), (4, .int .u64 0), (5, .int .u64 0)]) (hs := c_ mv_ <| e_) (k := fun E2 ac wd h_2 => ?_)
  clear h_1
  refine then_n (wp_seq (wp_seq ?_))
  refine rg_ h_2 [[0]] [K_ (vI 3)] (fun E3 => [(0, rS z A0 c0), (1, vN o), (4, .int .u64 0), (5, .int .u64 0), (6, vI 3)]) (hs := c_ mv_ <| e_) (k := fun E3 ac wd h_3 => ?_)
  clear h_2
  refine then_n (wp_block ?_)
  refine wp_loop (fun ac wd => ∃ (c : Nat), c ≤ 4 ∧ Cur 29 w0 none none (fun _ => True) (fun _ => True) [(0, rS z A0 c0), (1, vN o), (4, .int .u64 0), (5, .int .u64 (wdN (digs z) o c)), (6, vI (3 - ((c : Nat) : Int)))] [] ac wd) (fun ac _ => (sI ac 6 + 1).toNat) ⟨0, by omega, (h_3.re rfl).th (fun _ h => h)⟩ ?_
  rintro ac wd ⟨c, hc, h_4⟩
  clear h_3
  have hmu : sI ac 6 = 3 - ((c : Nat) : Int) := sI_eq (h_4.g (t := 6) rfl)
  refine wp_seq (wp_seq ?_)
  by_cases h1 : c < 4
  have hw := wdN_48 (rg_digs z) o (show c ≤ 3 by omega)
  refine rg_ h_4 [[0],[0,1]] [K_ (vI (3 - ((c : Nat) : Int))), K_ bT] (fun E5 => [(0, rS z A0 c0), (1, vN o), (4, .int .u64 0), (5, .int .u64 (wdN (digs z) o c)), (6, vI (3 - ((c : Nat) : Int))), (7, vI (3 - ((c : Nat) : Int))), (8, bT)]) (hs := c_ mv_ <| c_ (bi0 (vI (3 - ((c : Nat) : Int))) (vI 0)) <| e_) (k := fun E5 ac wd h_5 => ?_)
  clear h_4
  refine then_n ?_
  refine wp_cond_true (eval_tmp (h_5.g (t := 8) rfl)) ?_
  refine wp_skip (then_n (wp_seq (wp_block (wp_seq ?_))))
  refine rg_ h_5 (tri 3) [K_ (.int .u64 (wdN (digs z) o c)), K_ (.int .u64 ((wdN (digs z) o c) * 65536)), K_ (.int .u64 ((wdN (digs z) o c) * 65536))] (fun E6 => [(0, rS z A0 c0), (1, vN o), (4, .int .u64 0), (5, .int .u64 ((wdN (digs z) o c) * 65536)), (6, vI (3 - ((c : Nat) : Int))), (7, vI (3 - ((c : Nat) : Int))), (8, bT), (11, .int .u64 (wdN (digs z) o c)), (12, .int .u64 ((wdN (digs z) o c) * 65536))]) (hs := c_ mv_ <| c_ (bi0 (.int .u64 (wdN (digs z) o c)) (.int .u64 16) (h := by intro env w; simp [go_sem]; exact IntWalk.u64_in _ (by omega))) <| c_ mv_ <| e_) (k := fun E6 ac wd h_6 => ?_)
  clear h_5
  refine then_n (wp_seq ?_)
  have hgd := (rg_digs z).getD (o + 3 - c)
  have hgq := hgd
  simp only [List.getD_eq_getElem?_getD] at hgq
  by_cases h2 : o + 3 - c < (digs z).length
  refine rg_ h_6 [[0],[1],[0,1,2],[3],[3,4],r_ 6] [K_ (vN o), K_ (vI (3 - ((c : Nat) : Int))), K_ (vI (((o : Nat) : Int) + (3 - ((c : Nat) : Int)))), K_ (rS z A0 c0), K_ (vN ((digs z).length)), K_ bT] (fun E7 => [(0, rS z A0 c0), (1, vN o), (4, .int .u64 0), (5, .int .u64 ((wdN (digs z) o c) * 65536)), (6, vI (3 - ((c : Nat) : Int))), (7, vI (3 - ((c : Nat) : Int))), (8, bT), (11, .int .u64 (wdN (digs z) o c)), (12, .int .u64 ((wdN (digs z) o c) * 65536)), (13, vN o), (14, vI (3 - ((c : Nat) : Int))), (15, vI (((o : Nat) : Int) + (3 - ((c : Nat) : Int)))), (16, rS z A0 c0), (17, vN ((digs z).length)), (18, bT)]) (hs := c_ mv_ <| c_ mv_ <| c_ (bi0 (vN o) (vI (3 - ((c : Nat) : Int)))) <| c_ mv_ <| c_ (ln_ Tryz.underlying40 fun _ env _ wd hA => (hr.grown hA.j.st.gr).els) <| c_ (bi0 (vI (((o : Nat) : Int) + (3 - ((c : Nat) : Int)))) (vN ((digs z).length))) <| e_) (k := fun E7 ac wd h_7 => ?_)
  clear h_6
  refine then_n ?_
  refine wp_cond_true (eval_tmp (h_7.g (t := 18) rfl)) ?_
  refine rg_ h_7 [[0],[1],[2],[3],[2,3,4],[1,2,3,4,5],[1,2,3,4,5,6],[1,2,3,4,5,6,7],r_ 9,r_ 10] [K_ (.int .u64 ((wdN (digs z) o c) * 65536)), K_ (rS z A0 c0), K_ (vN o), K_ (vI (3 - ((c : Nat) : Int))), K_ (vI (((o : Nat) : Int) + (3 - ((c : Nat) : Int)))), K_ (elt (rS z A0 c0) (o + 3 - c)), K_ (vI (((digs z)).getD (o + 3 - c) 0)), K_ (.int .u64 (((digs z)).getD (o + 3 - c) 0)), K_ (.int .u64 ((wdN (digs z) o c) * 65536 + (((digs z)).getD (o + 3 - c) 0))), K_ (.int .u64 ((wdN (digs z) o c) * 65536 + (((digs z)).getD (o + 3 - c) 0)))] (fun E8 => [(0, rS z A0 c0), (1, vN o), (4, .int .u64 0), (5, .int .u64 ((wdN (digs z) o c) * 65536 + (((digs z)).getD (o + 3 - c) 0))), (6, vI (3 - ((c : Nat) : Int))), (7, vI (3 - ((c : Nat) : Int))), (8, bT), (11, .int .u64 (wdN (digs z) o c)), (12, .int .u64 ((wdN (digs z) o c) * 65536)), (13, vN o), (14, vI (3 - ((c : Nat) : Int))), (15, vI (((o : Nat) : Int) + (3 - ((c : Nat) : Int)))), (16, rS z A0 c0), (17, vN ((digs z).length)), (18, bT), (19, .int .u64 ((wdN (digs z) o c) * 65536)), (20, rS z A0 c0), (21, vN o), (22, vI (3 - ((c : Nat) : Int))), (23, vI (((o : Nat) : Int) + (3 - ((c : Nat) : Int)))), (24, elt (rS z A0 c0) (o + 3 - c)), (25, vI (((digs z)).getD (o + 3 - c) 0)), (26, .int .u64 (((digs z)).getD (o + 3 - c) 0)), (27, .int .u64 ((wdN (digs z) o c) * 65536 + (((digs z)).getD (o + 3 - c) 0)))]) (hs := c_ mv_ <| c_ mv_ <| c_ mv_ <| c_ mv_ <| c_ (bi0 (vN o) (vI (3 - ((c : Nat) : Int)))) <| c_ (ia_ Tryz.underlying40 sz3 (o + 3 - c) (o + 3 - c) (((o : Nat) : Int) + (3 - ((c : Nat) : Int))) (fun _ env _ wd hA => (hr.grown hA.j.st.gr).els) (by omega) (by omega) (Nat.mul_one _)) <| c_ (le_ (o + 3 - c) (fun _ env _ wd hA => (hr.grown hA.j.st.gr).els) (by omega) (le3 rfl)) <| c_ (cv0 (vI (((digs z)).getD (o + 3 - c) 0)) (h := by intro env w; (first | (simp [go_sem]; done) | (simp [go_sem]; exact IntWalk.u64_in _ (by omega))))) <| c_ (bi0 (.int .u64 ((wdN (digs z) o c) * 65536)) (.int .u64 (((digs z)).getD (o + 3 - c) 0)) (h := by intro env w; (first | (simp [go_sem]; done) | (simp [go_sem]; exact IntWalk.u64_in _ (by omega))))) <| c_ mv_ <| e_) (k := fun E8 ac wd h_8 => ?_)
  clear h_7
  refine blk_n (then_n ?_)
  refine rg_ h_8 (tri 3) [K_ (vI (3 - ((c : Nat) : Int))), K_ (vI ((3 - ((c : Nat) : Int)) - 1)), K_ (vI ((3 - ((c : Nat) : Int)) - 1))] (fun E9 => [(0, rS z A0 c0), (1, vN o), (4, .int .u64 0), (5, .int .u64 ((wdN (digs z) o c) * 65536 + (((digs z)).getD (o + 3 - c) 0))), (6, vI ((3 - ((c : Nat) : Int)) - 1)), (7, vI (3 - ((c : Nat) : Int))), (8, bT), (9, vI (3 - ((c : Nat) : Int))), (10, vI ((3 - ((c : Nat) : Int)) - 1)), (11, .int .u64 (wdN (digs z) o c)), (12, .int .u64 ((wdN (digs z) o c) * 65536)), (13, vN o), (14, vI (3 - ((c : Nat) : Int))), (15, vI (((o : Nat) : Int) + (3 - ((c : Nat) : Int)))), (16, rS z A0 c0), (17, vN ((digs z).length)), (18, bT), (19, .int .u64 ((wdN (digs z) o c) * 65536)), (20, rS z A0 c0), (21, vN o), (22, vI (3 - ((c : Nat) : Int))), (23, vI (((o : Nat) : Int) + (3 - ((c : Nat) : Int)))), (24, elt (rS z A0 c0) (o + 3 - c)), (25, vI (((digs z)).getD (o + 3 - c) 0)), (26, .int .u64 (((digs z)).getD (o + 3 - c) 0)), (27, .int .u64 ((wdN (digs z) o c) * 65536 + (((digs z)).getD (o + 3 - c) 0)))]) (hs := c_ mv_ <| c_ (bi0 (vI (3 - ((c : Nat) : Int))) (vI 1)) <| c_ mv_ <| e_) (k := fun E9 ac wd h_9 => ?_)
  clear h_8
  refine then_n ?_
  have eW : wdN (digs z) o (c + 1) = wdN (digs z) o c * 65536 + (digs z).getD (o + 3 - c) 0 := rfl
  rw [← eW] at h_9
  rw [show (3 - ((c : Nat) : Int) - 1) = 3 - ((c + 1 : Nat) : Int) by omega] at h_9
  exact ⟨⟨c + 1, by omega, h_9.re rfl⟩, by rw [sI_eq (h_9.g (t := 6) rfl), hmu]; omega⟩
  refine rg_ h_6 [[0],[1],[0,1,2],[3],[3,4],r_ 6] [K_ (vN o), K_ (vI (3 - ((c : Nat) : Int))), K_ (vI (((o : Nat) : Int) + (3 - ((c : Nat) : Int)))), K_ (rS z A0 c0), K_ (vN ((digs z).length)), K_ bF] (fun E7 => [(0, rS z A0 c0), (1, vN o), (4, .int .u64 0), (5, .int .u64 ((wdN (digs z) o c) * 65536)), (6, vI (3 - ((c : Nat) : Int))), (7, vI (3 - ((c : Nat) : Int))), (8, bT), (11, .int .u64 (wdN (digs z) o c)), (12, .int .u64 ((wdN (digs z) o c) * 65536)), (13, vN o), (14, vI (3 - ((c : Nat) : Int))), (15, vI (((o : Nat) : Int) + (3 - ((c : Nat) : Int)))), (16, rS z A0 c0), (17, vN ((digs z).length)), (18, bF)]) (hs := c_ mv_ <| c_ mv_ <| c_ (bi0 (vN o) (vI (3 - ((c : Nat) : Int)))) <| c_ mv_ <| c_ (ln_ Tryz.underlying40 fun _ env _ wd hA => (hr.grown hA.j.st.gr).els) <| c_ (bi0 (vI (((o : Nat) : Int) + (3 - ((c : Nat) : Int)))) (vN ((digs z).length))) <| e_) (k := fun E7 ac wd h_7 => ?_)
  clear h_6
  refine then_n ?_
  refine wp_cond_false (eval_tmp (h_7.g (t := 18) rfl)) ?_
  refine wp_skip (blk_n (then_n ?_))
  refine rg_ h_7 (tri 3) [K_ (vI (3 - ((c : Nat) : Int))), K_ (vI ((3 - ((c : Nat) : Int)) - 1)), K_ (vI ((3 - ((c : Nat) : Int)) - 1))] (fun E8 => [(0, rS z A0 c0), (1, vN o), (4, .int .u64 0), (5, .int .u64 ((wdN (digs z) o c) * 65536)), (6, vI ((3 - ((c : Nat) : Int)) - 1)), (7, vI (3 - ((c : Nat) : Int))), (8, bT), (9, vI (3 - ((c : Nat) : Int))), (10, vI ((3 - ((c : Nat) : Int)) - 1)), (11, .int .u64 (wdN (digs z) o c)), (12, .int .u64 ((wdN (digs z) o c) * 65536)), (13, vN o), (14, vI (3 - ((c : Nat) : Int))), (15, vI (((o : Nat) : Int) + (3 - ((c : Nat) : Int)))), (16, rS z A0 c0), (17, vN ((digs z).length)), (18, bF)]) (hs := c_ mv_ <| c_ (bi0 (vI (3 - ((c : Nat) : Int))) (vI 1)) <| c_ mv_ <| e_) (k := fun E8 ac wd h_8 => ?_)
  clear h_7
  refine then_n ?_
  have eW : wdN (digs z) o (c + 1) = wdN (digs z) o c * 65536 := by simp only [wdN]; rw [getD_out (by omega)]; omega
  rw [← eW] at h_8
  rw [show (3 - ((c : Nat) : Int) - 1) = 3 - ((c + 1 : Nat) : Int) by omega] at h_8
  exact ⟨⟨c + 1, by omega, h_8.re rfl⟩, by rw [sI_eq (h_8.g (t := 6) rfl), hmu]; omega⟩
  obtain rfl : c = 4 := by omega
  refine rg_ h_4 [[0],[0,1]] [K_ (vI (3 - ((4 : Nat) : Int))), K_ bF] (fun E5 => [(0, rS z A0 c0), (1, vN o), (4, .int .u64 0), (5, .int .u64 (wdN (digs z) o 4)), (6, vI (3 - ((4 : Nat) : Int))), (7, vI (3 - ((4 : Nat) : Int))), (8, bF)]) (hs := c_ mv_ <| c_ (bi0 (vI (3 - ((4 : Nat) : Int))) (vI 0)) <| e_) (k := fun E5 ac wd h_5 => ?_)
  clear h_4
  refine then_n ?_
  refine wp_cond_false (eval_tmp (h_5.g (t := 8) rfl)) ?_
  refine wp_exit (then_e (then_e (blk_x (then_n (wp_seq ?_)))))
  refine rg_ h_5 [[0],[0,1]] [K_ (.int .u64 (wdN (digs z) o 4)), K_ (.int .u64 (wdN (digs z) o 4))] (fun E6 => [(4, .int .u64 (wdN (digs z) o 4))]) (hs := c_ mv_ <| c_ mv_ <| e_) (k := fun E6 ac wd h_6 => ?_)
  clear h_5
  refine then_n (wp_ret ?_)
  have s4 := h_6.g (t := 4) rfl
  refine leave (v := .int .u64 (wdN (digs z) o 4)) h_6.df (by simp [results, Tryz.results89, go_sem, Array.getD_eq_getD_getElem?, s4]) ?_
  exact ⟨rfl, h_6.st.below⟩
end Go.Proofs.YtibdhpffdkiggaaGreat

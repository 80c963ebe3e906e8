/- epactref01: Wide (printed by my walk.py) -/
import Derived.Test.YtibdhpffdkiggaaGreatE9
import Derived.Test.YtibdhpffdkiggaaGreatM3
import Derived.IntWalk
namespace Go.Proofs.YtibdhpffdkiggaaGreat
open Go.RowKit
set_option linter.unusedVariables false
set_option linter.unusedSimpArgs false
attribute [local go_sem] vN bT bF rS vW vM vL vT2 vT3 vP vI execOp Act.eval evC bigF vB hi_zero lo_zero Tryz.underlying2 Tryz.underlying32 Tryz.underlying34 Tryz.underlying42

theorem digsN_getD : ∀ (k n : Nat), (digsN n).getD k 0 = ((n / 65536 ^ k % 65536 : Nat) : Int)
  | 0, n => by
    rw [digsN]
    split
    · rename_i h; subst h; rfl
    · simp
  | k + 1, n => by
    have ih := digsN_getD k (n / 65536)
    rw [digsN]
    split
    · rename_i h; subst h; simp
    · rw [List.getD_cons_succ, ih, Nat.div_div_eq_div_mul, Nat.pow_succ, Nat.mul_comm 65536]
theorem wd_lo (z : Int) : wdN (digs z) 0 4 = (z.natAbs : Int) % 18446744073709551616 := by
  unfold digs
  simp only [wdN, digsN_getD]
  generalize z.natAbs = n
  simp only [Nat.reduceAdd, Nat.reduceSub, Nat.reducePow]
  omega
theorem wd_hi (z : Int) : wdN (digs z) 4 4 = (z.natAbs : Int) / 18446744073709551616 % 18446744073709551616 := by
  unfold digs
  simp only [wdN, digsN_getD]
  generalize z.natAbs = n
  simp only [Nat.reduceAdd, Nat.reduceSub, Nat.reducePow]
  omega
theorem i64_of (m : Int) (h0 : 0 ≤ m) (h1 : m < 18446744073709551616) : IntKind.i64.wrap m = if m < 9223372036854775808 then m else m - 18446744073709551616 := by
  unfold IntKind.wrap
  simp [IntKind.bits, IntKind.signed]
  split <;> split <;> omega

theorem word_eq (w0 : World) (A0 : Option Addr) (c0 : Nat) (z : Int) (o : Nat) (ho : o ≤ 100) (hr : Row w0 (.slice A0 (digs z).length c0) (digs z)) {v : Int} (h : wdN (digs z) o 4 = v) : Calls Tryz.prog 89 #[.slice A0 ((digs z).length) c0, vI (((o : Nat) : Int))] w0 fun e w' => e = .returned (.int .u64 v) ∧ Below w0.heap.size w0 w' := by
  subst h
  exact word_core w0 A0 c0 z o ho hr
theorem Sub_pos (w0 : World) (A0 B0 : Option Addr) (c0 k0 : Nat) (x y : Int) (h : 0 ≤ x) (hy0 : y < 0) (hr : Row w0 (.slice A0 (digs x).length c0) (digs x)) (hr2 : Row w0 (.slice B0 (digs y).length k0) (digs y)) (hx : Sm x) (hy : Sm y) : Calls Tryz.prog 38 #[.agg #[.bool (decide (x < 0)), .slice A0 ((digs x).length) c0], .agg #[.bool false, .slice B0 ((digs y).length) k0]] w0 fun e w' => ∃ v, e = .returned v ∧ Below w0.heap.size w0 w' ∧ BigN w0.heap.size w' v (x + y) := by
  have := Sub_any w0 _ A0 c0 x rfl hr hx false B0 k0 (-y) (decide_eq_false (by omega)).symm (Row.neg hr2) hy.neg
  rw [digs_neg, Int.sub_neg] at this
  exact this
set_option maxRecDepth 100000 in
set_option maxHeartbeats 8000000 in
theorem Wide_yes (w0 : World) (p : Bool) (A0 : Option Addr) (c0 : Nat) (x : Int) (hp : p = decide (x < 0)) (hr : Row w0 (.slice A0 (digs x).length c0) (digs x)) (h1 : x < 2 ^ 127) (h2 : -(2 ^ 127) ≤ x) : Calls Tryz.prog 77 #[.agg #[.bool (p), .slice A0 ((digs x).length) c0]] w0 fun e w' => e = .returned (vT2 (vW x) (.bool true)) ∧ Below w0.heap.size w0 w' := by
  have hst := St.start w0 (Θ := fun _ => True) (fun _ _ => trivial)
  refine enter Tryz.func77 rfl (n := 33) rfl (Nat.le_of_ble_eq_true rfl) hst (L := [(0, .agg #[.bool (p), .slice A0 ((digs x).length) c0])]) (lk_args rfl) (fun ac h => ?_)
  replace h := h.facts
  refine wp_seq ?_
  refine rf_ h [[0],[1],[2]] [KE_ fun env => vP (pb env 0) 0, KE_ fun env => vP (pb env 1) 0, K_ bF] (fun E1 => [(1, vP (pb E1 0) 0), (2, vP (pb E1 1) 0), (3, bF)]) (W := [{ i := 0, T := 42, c0 := [.bool (p), rS x A0 c0] }, { i := 1, T := 34, c0 := [vI 0, .int .u64 0] }]) (M' := fun E1 => [((pb E1 0), 42, [.bool (p), rS x A0 c0]), ((pb E1 1), 34, [vI 0, .int .u64 0])]) (hs := c_ (bx0 0 (.agg #[.bool (p), rS x A0 c0])) <| c_ (al_ 1) <| c_ mv_ <| e_) (k := fun E1 ac wd h_1 => ?_)
  clear h
  refine then_n (wp_seq (wp_seq ?_))
  refine rf_ h_1 [[0],[1],[0,1,2],r_ 4,r_ 5,r_ 6,[0,1,2,3,4,6],[0,1,2,3,4,6,7],r_ 9,r_ 10,r_ 11] [K_ (.agg #[.bool (p), rS x A0 c0]), KE_ fun env => bigF ((2 : Int) ^ (127 : Nat)) (env 1), K_ (vI (cmpZ x ((2 : Int) ^ (127 : Nat)))), K_ bF, K_ bF, K_ (.agg #[.bool (p), rS x A0 c0]), KE_ fun env => bigF ((2 : Int) ^ (127 : Nat)) (env 6), KE_ fun env => bigF (-((2 : Int) ^ (127 : Nat))) (env 6), K_ (vI (cmpZ x (-((2 : Int) ^ (127 : Nat))))), K_ bF, K_ bF] (fun E2 => [(1, vP (pb E1 0) 0), (2, vP (pb E1 1) 0), (3, bF), (15, bF)]) (F := [(1, fun env w => BigN w0.heap.size w (env 1) ((2 : Int) ^ (127 : Nat))), (6, fun env w => BigN w0.heap.size w (env 6) ((2 : Int) ^ (127 : Nat)))]) (L1 := fun E2 => [fun w => BigN w0.heap.size w (E2 1) ((2 : Int) ^ (127 : Nat)), fun w => BigN w0.heap.size w (E2 6) ((2 : Int) ^ (127 : Nat))]) (hs := c_ (ld_ 0 (hrd := by exact rd42 rfl rfl)) <| c_ (cb_ Tryz.func28 ((2 : Int) ^ (127 : Nat)) (h := fun _ env _ wd hA => ⟨_, Pow2_any wd 127 (by omega), rfl⟩)) <| c_ (cw_ Tryz.func24 (h := fun _ env _ wd hA => ⟨_, Cmp_any wd p A0 c0 x hp (hr.grown hA.j.st.gr)  (decide ((2 : Int) ^ (127 : Nat) < 0)) (bA (env 1)) (bC (env 1)) ((2 : Int) ^ (127 : Nat)) rfl (At.bigN hA 1 rfl rfl rfl) , rfl⟩)) <| c_ (bi0 (vI (cmpZ x ((2 : Int) ^ (127 : Nat)))) (vI 0) (h := by intro env w; (first | (simp [go_sem]; done) | (simp [go_sem]; unfold cmpZ; split <;> (try split) <;> omega)))) <| c_ mv_ <| c_ (ld_ 0 (hrd := by exact rd42 rfl rfl)) <| c_ (cb_ Tryz.func28 ((2 : Int) ^ (127 : Nat)) (h := fun _ env _ wd hA => ⟨_, Pow2_any wd 127 (by omega), rfl⟩)) <| c_ (cw_ Tryz.func52 (h := fun _ env _ wd hA => ⟨_, Neg_any wd _ (bA (env 6)) (bC (env 6)) ((2 : Int) ^ (127 : Nat)) rfl (At.bigN hA 6 rfl rfl rfl), rfl⟩)) <| c_ (cw_ Tryz.func24 (h := fun _ env _ wd hA => ⟨_, Cmp_any wd p A0 c0 x hp (hr.grown hA.j.st.gr)  (decide (-((2 : Int) ^ (127 : Nat)) < 0)) (bA (env 6)) (bC (env 6)) (-((2 : Int) ^ (127 : Nat))) rfl (Row.neg (At.bigN hA 6 rfl rfl rfl)) , rfl⟩)) <| c_ (bi0 (vI (cmpZ x (-((2 : Int) ^ (127 : Nat))))) (vI 0) (h := by intro env w; (first | (simp [go_sem]; done) | (simp [go_sem]; unfold cmpZ; split <;> (try split) <;> omega)))) <| c_ (pk0 bF bT bF (h := by intro env w; (first | (simp [go_sem]; done) | (simp [go_sem]; unfold cmpZ; split <;> (try split) <;> omega)))) <| e_) (k := fun E2 ac wd h_2 => ?_)
  clear h_1
  refine then_n ?_
  refine wp_cond_false (eval_tmp (h_2.g (t := 15) rfl)) ?_
  refine wp_skip (then_n (wp_seq ?_))
  refine rf_ h_2 (tri 3) [K_ (vP (pb E1 0) 1), K_ (rS x A0 c0), K_ (rS x A0 c0)] (fun E3 => [(1, vP (pb E1 0) 0), (2, vP (pb E1 1) 0), (3, bF), (4, rS x A0 c0)]) (hs := c_ (fa0 (vP (pb E1 0) 0)) <| c_ (ld_ 0 (hrd := by exact rd40 rfl)) <| c_ mv_ <| e_) (k := fun E3 ac wd h_3 => ?_)
  clear h_2
  refine then_n (wp_seq (wp_seq ?_))
  cases p
  have hx0 : 0 ≤ x := by have := of_decide_eq_false hp.symm; omega
  refine rf_ h_3 [[0],[0,1]] [K_ (vP (pb E1 0) 0), K_ bF] (fun E4 => [(1, vP (pb E1 0) 0), (2, vP (pb E1 1) 0), (3, bF), (4, rS x A0 c0), (20, bF)]) (hs := c_ (fa0 (vP (pb E1 0) 0)) <| c_ (ld_ 0 (hrd := by exact rd4 rfl)) <| e_) (k := fun E4 ac wd h_4 => ?_)
  clear h_3
  refine then_n ?_
  refine wp_cond_false (eval_tmp (h_4.g (t := 20) rfl)) ?_
  refine wp_skip (then_n (wp_seq ?_))
  have hv4 : wdN (digs x) 4 4 = hi (x) := by rw [wd_hi]; unfold hi; omega
  have hv0 : wdN (digs x) 0 4 = lo (x) := by rw [wd_lo]; unfold lo; omega
  refine rf_ h_4 [[0],[0,1],[0,1,2],[3],[0,1,3,4],r_ 6,r_ 7,r_ 8] [K_ (rS x A0 c0), K_ (.int .u64 (hi (x))), K_ (vI (hi (x))), K_ (rS x A0 c0), K_ (.int .u64 (lo (x))), K_ (vW x), none, K_ bT] (fun E5 => [(2, vP (pb E1 1) 0), (3, bT)]) (S := [⟨1, 6, fun _ => [vI (hi (x)), .int .u64 (lo (x))]⟩]) (M' := fun E5 => [((pb E1 0), 42, [bF, rS x A0 c0]), ((pb E1 1), 34, [vI (hi (x)), .int .u64 (lo (x))])]) (hs := c_ mv_ <| c_ (cw_ Tryz.func89 (h := fun _ env _ wd hA => ⟨_, word_eq wd A0 c0 x 4 (by omega) (hr.grown hA.j.st.gr) hv4, rfl⟩)) <| c_ (cv0 (.int .u64 (hi (x))) (h := by intro env w; simp [go_sem]; exact IntWalk.i64_in _ (by unfold hi; omega))) <| c_ mv_ <| c_ (cw_ Tryz.func89 (h := fun _ env _ wd hA => ⟨_, word_eq wd A0 c0 x 0 (by omega) (hr.grown hA.j.st.gr) hv0, rfl⟩)) <| c_ (bd0 ([vI (hi (x)), .int .u64 (lo (x))])) <| c_ (se_ 1 (hst := by exact fun _ _ _ hc => st34 rfl rfl rfl hc)) <| c_ mv_ <| e_) (k := fun E5 ac wd h_5 => ?_)
  clear h_4
  refine then_n (wp_ret ?_)
  have s2 := h_5.g (t := 2) rfl
  have hc2 := (h_5.st.own 1 _ rfl).2
  have c2_0 := own_cell (o := 0) hc2 rfl
  have c2_1 := own_cell (o := 1) hc2 rfl
  have s3 := h_5.g (t := 3) rfl
  refine leave (v := vT2 (vW x) (.bool true)) h_5.df (by simp [results, Tryz.results77, go_sem, Array.getD_eq_getD_getElem?, s2, c2_0, c2_1, Tryz.underlying34, s3]) ?_
  exact ⟨rfl, h_5.st.below⟩
  have hx0 : x < 0 := of_decide_eq_true hp.symm
  refine rf_ h_3 [[0],[0,1]] [K_ (vP (pb E1 0) 0), K_ bT] (fun E4 => [(1, vP (pb E1 0) 0), (2, vP (pb E1 1) 0), (3, bF), (4, rS x A0 c0), (20, bT)]) (hs := c_ (fa0 (vP (pb E1 0) 0)) <| c_ (ld_ 0 (hrd := by exact rd4 rfl)) <| e_) (k := fun E4 ac wd h_4 => ?_)
  clear h_3
  refine then_n ?_
  refine wp_cond_true (eval_tmp (h_4.g (t := 20) rfl)) ?_
  refine rf_ h_4 [[0],[1],[1,2],[1,2,3],r_ 5,r_ 6,r_ 7] [KE_ fun env => bigF ((2 : Int) ^ (128 : Nat)) (env 0), K_ (vP (pb E1 0) 1), K_ (rS x A0 c0), K_ (.agg #[bF, rS x A0 c0]), KE_ fun env => bigF ((2 : Int) ^ (128 : Nat) + x) (env 4), KE_ fun env => rS ((2 : Int) ^ (128 : Nat) + x) ((bA (env 4))) ((bC (env 4))), KE_ fun env => rS ((2 : Int) ^ (128 : Nat) + x) ((bA (env 4))) ((bC (env 4)))] (fun E5 => [(2, vP (pb E1 1) 0), (3, bF), (4, rS ((2 : Int) ^ (128 : Nat) + x) ((bA (E5 4))) ((bC (E5 4))))]) (F := [(0, fun env w => BigN w0.heap.size w (env 0) ((2 : Int) ^ (128 : Nat))), (4, fun env w => BigN w0.heap.size w (env 4) ((2 : Int) ^ (128 : Nat) + x))]) (L1 := fun E5 => [fun w => BigN w0.heap.size w (E2 1) ((2 : Int) ^ (127 : Nat)), fun w => BigN w0.heap.size w (E2 6) ((2 : Int) ^ (127 : Nat)), fun w => BigN w0.heap.size w (E5 0) ((2 : Int) ^ (128 : Nat)), fun w => BigN w0.heap.size w (E5 4) ((2 : Int) ^ (128 : Nat) + x)]) (hs := c_ (cb_ Tryz.func28 ((2 : Int) ^ (128 : Nat)) (h := fun _ env _ wd hA => ⟨_, Pow2_any wd 128 (by omega), rfl⟩)) <| c_ (fa0 (vP (pb E1 0) 0)) <| c_ (ld_ 0 (hrd := by exact rd40 rfl)) <| c_ (bd0 ([rS x A0 c0])) <| c_ (cb_ Tryz.func38 ((2 : Int) ^ (128 : Nat) + x) (h := fun _ env _ wd hA => ⟨_, Sub_pos wd (bA (env 0)) A0 (bC (env 0)) c0 ((2 : Int) ^ (128 : Nat)) x (by omega) hx0 (At.bigN hA 0 rfl rfl rfl) (hr.grown hA.j.st.gr) (by unfold Sm; omega) (by unfold Sm; omega), rfl⟩)) <| c_ (fl_ (fun env => bigF ((2 : Int) ^ (128 : Nat) + x) (env 4))) <| c_ mv_ <| e_) (k := fun E5 ac wd h_5 => ?_)
  clear h_4
  refine then_n (wp_seq ?_)
  have hv4 : wdN (digs (2 ^ 128 + x)) 4 4 = hi (x) + 18446744073709551616 := by rw [wd_hi]; unfold hi; omega
  have hv0 : wdN (digs (2 ^ 128 + x)) 0 4 = lo (x) := by rw [wd_lo]; unfold lo; omega
  refine rf_ h_5 [[0],[0,1],[0,1,2],[3],[0,1,3,4],r_ 6,r_ 7,r_ 8] [K_ (rS ((2 : Int) ^ (128 : Nat) + x) ((bA (E5 4))) ((bC (E5 4)))), K_ (.int .u64 (hi (x) + 18446744073709551616)), K_ (vI (hi (x))), K_ (rS ((2 : Int) ^ (128 : Nat) + x) ((bA (E5 4))) ((bC (E5 4)))), K_ (.int .u64 (lo (x))), K_ (vW x), none, K_ bT] (fun E6 => [(2, vP (pb E1 1) 0), (3, bT)]) (S := [⟨1, 6, fun _ => [vI (hi (x)), .int .u64 (lo (x))]⟩]) (M' := fun E6 => [((pb E1 0), 42, [bT, rS x A0 c0]), ((pb E1 1), 34, [vI (hi (x)), .int .u64 (lo (x))])]) (hs := c_ mv_ <| c_ (cw_ Tryz.func89 (h := fun _ env _ wd hA => ⟨_, word_eq wd (bA (E5 4)) (bC (E5 4)) ((2 : Int) ^ (128 : Nat) + x) 4 (by omega) (Facts.bigN (hA.j.st.now).1 3 rfl) hv4, rfl⟩)) <| c_ (cv0 (.int .u64 (hi (x) + 18446744073709551616)) (h := by intro env w; simp [go_sem]; rw [i64_of _ (by unfold hi; omega) (by unfold hi; omega), if_neg (by unfold hi; omega)]; omega)) <| c_ mv_ <| c_ (cw_ Tryz.func89 (h := fun _ env _ wd hA => ⟨_, word_eq wd (bA (E5 4)) (bC (E5 4)) ((2 : Int) ^ (128 : Nat) + x) 0 (by omega) (Facts.bigN (hA.j.st.now).1 3 rfl) hv0, rfl⟩)) <| c_ (bd0 ([vI (hi (x)), .int .u64 (lo (x))])) <| c_ (se_ 1 (hst := by exact fun _ _ _ hc => st34 rfl rfl rfl hc)) <| c_ mv_ <| e_) (k := fun E6 ac wd h_6 => ?_)
  clear h_5
  refine then_n (wp_ret ?_)
  have s2 := h_6.g (t := 2) rfl
  have hc2 := (h_6.st.own 1 _ rfl).2
  have c2_0 := own_cell (o := 0) hc2 rfl
  have c2_1 := own_cell (o := 1) hc2 rfl
  have s3 := h_6.g (t := 3) rfl
  refine leave (v := vT2 (vW x) (.bool true)) h_6.df (by simp [results, Tryz.results77, go_sem, Array.getD_eq_getD_getElem?, s2, c2_0, c2_1, Tryz.underlying34, s3]) ?_
  exact ⟨rfl, h_6.st.below⟩
set_option maxRecDepth 100000 in
set_option maxHeartbeats 8000000 in
theorem Wide_big (w0 : World) (p : Bool) (A0 : Option Addr) (c0 : Nat) (x : Int) (hp : p = decide (x < 0)) (hr : Row w0 (.slice A0 (digs x).length c0) (digs x)) (h1 : 2 ^ 127 ≤ x) : Calls Tryz.prog 77 #[.agg #[.bool (p), .slice A0 ((digs x).length) c0]] w0 fun e w' => e = .returned (vT2 (.agg #[vI 0, .int .u64 0]) (.bool false)) ∧ Below w0.heap.size w0 w' := by
  have hst := St.start w0 (Θ := fun _ => True) (fun _ _ => trivial)
  refine enter Tryz.func77 rfl (n := 33) rfl (Nat.le_of_ble_eq_true rfl) hst (L := [(0, .agg #[.bool (p), .slice A0 ((digs x).length) c0])]) (lk_args rfl) (fun ac h => ?_)
  replace h := h.facts
  refine wp_seq ?_
  refine rf_ h [[0],[1],[2]] [KE_ fun env => vP (pb env 0) 0, KE_ fun env => vP (pb env 1) 0, K_ bF] (fun E1 => [(1, vP (pb E1 0) 0), (2, vP (pb E1 1) 0), (3, bF)]) (W := [{ i := 0, T := 42, c0 := [.bool (p), rS x A0 c0] }, { i := 1, T := 34, c0 := [vI 0, .int .u64 0] }]) (M' := fun E1 => [((pb E1 0), 42, [.bool (p), rS x A0 c0]), ((pb E1 1), 34, [vI 0, .int .u64 0])]) (hs := c_ (bx0 0 (.agg #[.bool (p), rS x A0 c0])) <| c_ (al_ 1) <| c_ mv_ <| e_) (k := fun E1 ac wd h_1 => ?_)
  clear h
  refine then_n (wp_seq (wp_seq ?_))
  refine rf_ h_1 [[0],[1],[0,1,2],r_ 4,r_ 5,r_ 6,[0,1,2,3,4,6],[0,1,2,3,4,6,7],r_ 9,r_ 10,r_ 11] [K_ (.agg #[.bool (p), rS x A0 c0]), KE_ fun env => bigF ((2 : Int) ^ (127 : Nat)) (env 1), K_ (vI (cmpZ x ((2 : Int) ^ (127 : Nat)))), K_ bT, K_ bT, K_ undef, K_ undef, K_ undef, K_ undef, K_ undef, K_ bT] (fun E2 => [(1, vP (pb E1 0) 0), (2, vP (pb E1 1) 0), (3, bF), (15, bT)]) (F := [(1, fun env w => BigN w0.heap.size w (env 1) ((2 : Int) ^ (127 : Nat)))]) (L1 := fun E2 => [fun w => BigN w0.heap.size w (E2 1) ((2 : Int) ^ (127 : Nat))]) (hs := c_ (ld_ 0 (hrd := by exact rd42 rfl rfl)) <| c_ (cb_ Tryz.func28 ((2 : Int) ^ (127 : Nat)) (h := fun _ env _ wd hA => ⟨_, Pow2_any wd 127 (by omega), rfl⟩)) <| c_ (cw_ Tryz.func24 (h := fun _ env _ wd hA => ⟨_, Cmp_any wd p A0 c0 x hp (hr.grown hA.j.st.gr)  (decide ((2 : Int) ^ (127 : Nat) < 0)) (bA (env 1)) (bC (env 1)) ((2 : Int) ^ (127 : Nat)) rfl (At.bigN hA 1 rfl rfl rfl) , rfl⟩)) <| c_ (bi0 (vI (cmpZ x ((2 : Int) ^ (127 : Nat)))) (vI 0) (h := by intro env w; (first | (simp [go_sem]; done) | (simp [go_sem]; unfold cmpZ; split <;> (try split) <;> omega)))) <| c_ mv_ <| c_ off_ <| c_ off_ <| c_ off_ <| c_ off_ <| c_ off_ <| c_ (pk0 bT bT undef) <| e_) (k := fun E2 ac wd h_2 => ?_)
  clear h_1
  refine then_n ?_
  refine wp_cond_true (eval_tmp (h_2.g (t := 15) rfl)) ?_
  refine wp_seq ?_
  refine rf_ h_2 (tri 3) [K_ (.agg #[vI 0, .int .u64 0]), none, K_ bF] (fun E3 => [(1, vP (pb E1 0) 0), (2, vP (pb E1 1) 0), (3, bF)]) (S := [⟨1, 1, fun _ => [vI 0, .int .u64 0]⟩]) (M' := fun E3 => [((pb E1 0), 42, [.bool (p), rS x A0 c0]), ((pb E1 1), 34, [vI 0, .int .u64 0])]) (hs := c_ (bd0 ([])) <| c_ (se_ 1 (hst := by exact fun _ _ _ hc => st34 rfl rfl rfl hc)) <| c_ mv_ <| e_) (k := fun E3 ac wd h_3 => ?_)
  clear h_2
  refine then_n (wp_ret (then_ret ?_))
  have s2 := h_3.g (t := 2) rfl
  have hc2 := (h_3.st.own 1 _ rfl).2
  have c2_0 := own_cell (o := 0) hc2 rfl
  have c2_1 := own_cell (o := 1) hc2 rfl
  have s3 := h_3.g (t := 3) rfl
  refine leave (v := vT2 (.agg #[vI 0, .int .u64 0]) (.bool false)) h_3.df (by simp [results, Tryz.results77, go_sem, Array.getD_eq_getD_getElem?, s2, c2_0, c2_1, Tryz.underlying34, s3]) ?_
  exact ⟨rfl, h_3.st.below⟩
set_option maxRecDepth 100000 in
set_option maxHeartbeats 8000000 in
theorem Wide_low (w0 : World) (p : Bool) (A0 : Option Addr) (c0 : Nat) (x : Int) (hp : p = decide (x < 0)) (hr : Row w0 (.slice A0 (digs x).length c0) (digs x)) (h1 : x < -(2 ^ 127)) : Calls Tryz.prog 77 #[.agg #[.bool (p), .slice A0 ((digs x).length) c0]] w0 fun e w' => e = .returned (vT2 (.agg #[vI 0, .int .u64 0]) (.bool false)) ∧ Below w0.heap.size w0 w' := by
  have hst := St.start w0 (Θ := fun _ => True) (fun _ _ => trivial)
  refine enter Tryz.func77 rfl (n := 33) rfl (Nat.le_of_ble_eq_true rfl) hst (L := [(0, .agg #[.bool (p), .slice A0 ((digs x).length) c0])]) (lk_args rfl) (fun ac h => ?_)
  replace h := h.facts
  refine wp_seq ?_
  refine rf_ h [[0],[1],[2]] [KE_ fun env => vP (pb env 0) 0, KE_ fun env => vP (pb env 1) 0, K_ bF] (fun E1 => [(1, vP (pb E1 0) 0), (2, vP (pb E1 1) 0), (3, bF)]) (W := [{ i := 0, T := 42, c0 := [.bool (p), rS x A0 c0] }, { i := 1, T := 34, c0 := [vI 0, .int .u64 0] }]) (M' := fun E1 => [((pb E1 0), 42, [.bool (p), rS x A0 c0]), ((pb E1 1), 34, [vI 0, .int .u64 0])]) (hs := c_ (bx0 0 (.agg #[.bool (p), rS x A0 c0])) <| c_ (al_ 1) <| c_ mv_ <| e_) (k := fun E1 ac wd h_1 => ?_)
  clear h
  refine then_n (wp_seq (wp_seq ?_))
  refine rf_ h_1 [[0],[1],[0,1,2],r_ 4,r_ 5,r_ 6,[0,1,2,3,4,6],[0,1,2,3,4,6,7],r_ 9,r_ 10,r_ 11] [K_ (.agg #[.bool (p), rS x A0 c0]), KE_ fun env => bigF ((2 : Int) ^ (127 : Nat)) (env 1), K_ (vI (cmpZ x ((2 : Int) ^ (127 : Nat)))), K_ bF, K_ bF, K_ (.agg #[.bool (p), rS x A0 c0]), KE_ fun env => bigF ((2 : Int) ^ (127 : Nat)) (env 6), KE_ fun env => bigF (-((2 : Int) ^ (127 : Nat))) (env 6), K_ (vI (cmpZ x (-((2 : Int) ^ (127 : Nat))))), K_ bT, K_ bT] (fun E2 => [(1, vP (pb E1 0) 0), (2, vP (pb E1 1) 0), (3, bF), (15, bT)]) (F := [(1, fun env w => BigN w0.heap.size w (env 1) ((2 : Int) ^ (127 : Nat))), (6, fun env w => BigN w0.heap.size w (env 6) ((2 : Int) ^ (127 : Nat)))]) (L1 := fun E2 => [fun w => BigN w0.heap.size w (E2 1) ((2 : Int) ^ (127 : Nat)), fun w => BigN w0.heap.size w (E2 6) ((2 : Int) ^ (127 : Nat))]) (hs := c_ (ld_ 0 (hrd := by exact rd42 rfl rfl)) <| c_ (cb_ Tryz.func28 ((2 : Int) ^ (127 : Nat)) (h := fun _ env _ wd hA => ⟨_, Pow2_any wd 127 (by omega), rfl⟩)) <| c_ (cw_ Tryz.func24 (h := fun _ env _ wd hA => ⟨_, Cmp_any wd p A0 c0 x hp (hr.grown hA.j.st.gr)  (decide ((2 : Int) ^ (127 : Nat) < 0)) (bA (env 1)) (bC (env 1)) ((2 : Int) ^ (127 : Nat)) rfl (At.bigN hA 1 rfl rfl rfl) , rfl⟩)) <| c_ (bi0 (vI (cmpZ x ((2 : Int) ^ (127 : Nat)))) (vI 0) (h := by intro env w; (first | (simp [go_sem]; done) | (simp [go_sem]; unfold cmpZ; split <;> (try split) <;> omega)))) <| c_ mv_ <| c_ (ld_ 0 (hrd := by exact rd42 rfl rfl)) <| c_ (cb_ Tryz.func28 ((2 : Int) ^ (127 : Nat)) (h := fun _ env _ wd hA => ⟨_, Pow2_any wd 127 (by omega), rfl⟩)) <| c_ (cw_ Tryz.func52 (h := fun _ env _ wd hA => ⟨_, Neg_any wd _ (bA (env 6)) (bC (env 6)) ((2 : Int) ^ (127 : Nat)) rfl (At.bigN hA 6 rfl rfl rfl), rfl⟩)) <| c_ (cw_ Tryz.func24 (h := fun _ env _ wd hA => ⟨_, Cmp_any wd p A0 c0 x hp (hr.grown hA.j.st.gr)  (decide (-((2 : Int) ^ (127 : Nat)) < 0)) (bA (env 6)) (bC (env 6)) (-((2 : Int) ^ (127 : Nat))) rfl (Row.neg (At.bigN hA 6 rfl rfl rfl)) , rfl⟩)) <| c_ (bi0 (vI (cmpZ x (-((2 : Int) ^ (127 : Nat))))) (vI 0) (h := by intro env w; (first | (simp [go_sem]; done) | (simp [go_sem]; unfold cmpZ; split <;> (try split) <;> omega)))) <| c_ (pk0 bF bT bT (h := by intro env w; (first | (simp [go_sem]; done) | (simp [go_sem]; unfold cmpZ; split <;> (try split) <;> omega)))) <| e_) (k := fun E2 ac wd h_2 => ?_)
  clear h_1
  refine then_n ?_
  refine wp_cond_true (eval_tmp (h_2.g (t := 15) rfl)) ?_
  refine wp_seq ?_
  refine rf_ h_2 (tri 3) [K_ (.agg #[vI 0, .int .u64 0]), none, K_ bF] (fun E3 => [(1, vP (pb E1 0) 0), (2, vP (pb E1 1) 0), (3, bF)]) (S := [⟨1, 1, fun _ => [vI 0, .int .u64 0]⟩]) (M' := fun E3 => [((pb E1 0), 42, [.bool (p), rS x A0 c0]), ((pb E1 1), 34, [vI 0, .int .u64 0])]) (hs := c_ (bd0 ([])) <| c_ (se_ 1 (hst := by exact fun _ _ _ hc => st34 rfl rfl rfl hc)) <| c_ mv_ <| e_) (k := fun E3 ac wd h_3 => ?_)
  clear h_2
  refine then_n (wp_ret (then_ret ?_))
  have s2 := h_3.g (t := 2) rfl
  have hc2 := (h_3.st.own 1 _ rfl).2
  have c2_0 := own_cell (o := 0) hc2 rfl
  have c2_1 := own_cell (o := 1) hc2 rfl
  have s3 := h_3.g (t := 3) rfl
  refine leave (v := vT2 (.agg #[vI 0, .int .u64 0]) (.bool false)) h_3.df (by simp [results, Tryz.results77, go_sem, Array.getD_eq_getD_getElem?, s2, c2_0, c2_1, Tryz.underlying34, s3]) ?_
  exact ⟨rfl, h_3.st.below⟩
end Go.Proofs.YtibdhpffdkiggaaGreat

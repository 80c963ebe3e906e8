/- epactref01: Word, Neg, Cmp, Same, Add, Sub, Int (printed by my walk.py) -/
import Derived.Test.YtdfkghpgekmmlaaL7
import Derived.Test.YtdfkghpgekmmlaaM0
import Derived.Test.YtdfkghpgekmmlaaM3
import Derived.IntWalk
namespace Go.Proofs.Ytdfkghpgekmmlaa
open Go.RowKit
set_option linter.unusedVariables false
set_option linter.unusedSimpArgs false
attribute [local go_sem] vN bT bF rS vW vM vL vT2 vT3 vP vI execOp Act.eval evC bigF vB hi_zero lo_zero Try.underlying3 Try.underlying37 Try.underlying46

theorem word_nat {n : Int} (h0 : 0 ≤ n) (h1 : n < 18446744073709551616) : nat [n % 65536, n / 65536 % 65536, n / 4294967296 % 65536, n / 281474976710656] = n := by
  simp only [nat]; omega
theorem word_rg {n : Int} (h0 : 0 ≤ n) (h1 : n < 18446744073709551616) : Rg [n % 65536, n / 65536 % 65536, n / 4294967296 % 65536, n / 281474976710656] := by
  intro d hd; simp at hd; omega
theorem and_16 {n : Int} (h0 : 0 ≤ n) (h1 : n < 18446744073709551616) : bits .and .u64 n 65535 = n % 65536 := by
  obtain ⟨m, rfl⟩ : ∃ m : Nat, n = (m : Int) := ⟨n.toNat, by omega⟩
  have h := bits_and_u64_nat m 65535 (by omega) (by omega)
  have h2 : m &&& 65535 = m % 65536 := Nat.and_two_pow_sub_one_eq_mod m 16
  rw [h2] at h
  simpa using h
set_option maxRecDepth 100000 in
set_option maxHeartbeats 8000000 in
theorem Word_any (w0 : World) (n : Int) (h0 : 0 ≤ n) (h1 : n < 18446744073709551616) : Calls Try.prog 36 #[.int .u64 n] w0 fun e w' => ∃ v, e = .returned v ∧ Below w0.heap.size w0 w' ∧ BigN w0.heap.size w' v (n) := by
  have hst := St.start w0 (Θ := fun _ => True) (fun _ _ => trivial)
  refine en_ Try.func36 hst 20 [(0, .int .u64 n)] (fun ac h => ?_)
  replace h := h.facts
  refine wp_seq ?_
  refine rf_ h [[0]] [KE_ fun env => vP (pb env 0) 0] (fun E1 => [(0, .int .u64 n), (2, vP (pb E1 0) 0)]) (W := [{ i := 0, T := 46, c0 := [bF, .slice none 0 0] }]) (M' := fun E1 => [((pb E1 0), 46, [bF, .slice none 0 0])]) (hs := c_ (al_ 0) <| e_) (k := fun E1 ac wd h_1 => ?_)
  clear h
  refine then_n (wp_seq ?_)
  refine rf_ h_1 [[0],[0,1],[0,1,2],[3],[3,4],[3,4,5],[3,4,5,6],[7],[7,8],[7,8,9],[7,8,9,10],[11],[11,12],[11,12,13],r_ 15,r_ 16,r_ 17,r_ 18] [K_ (.int .u64 n), K_ (.int .u64 (n % 65536)), K_ (vI (n % 65536)), K_ (.int .u64 n), K_ (.int .u64 (n / 65536)), K_ (.int .u64 ((n / 65536) % 65536)), K_ (vI ((n / 65536) % 65536)), K_ (.int .u64 n), K_ (.int .u64 (n / 4294967296)), K_ (.int .u64 ((n / 4294967296) % 65536)), K_ (vI ((n / 4294967296) % 65536)), K_ (.int .u64 n), K_ (.int .u64 (n / 281474976710656)), K_ (vI (n / 281474976710656)), KE_ fun env => .slice ((sA (env 14))) ([n % 65536, (n / 65536) % 65536, (n / 4294967296) % 65536, n / 281474976710656].length) ((sC (env 14))), KE_ fun env => rS (nat [n % 65536, (n / 65536) % 65536, (n / 4294967296) % 65536, n / 281474976710656]) ((sA (env 14))) ((sC (env 14))), KE_ fun env => .agg #[bF, rS (nat [n % 65536, (n / 65536) % 65536, (n / 4294967296) % 65536, n / 281474976710656]) ((sA (env 14))) ((sC (env 14)))], none] (fun E2 => [(2, vP (pb E1 0) 0)]) (S := [⟨0, 17, fun env => [bF, rS (nat [n % 65536, (n / 65536) % 65536, (n / 4294967296) % 65536, n / 281474976710656]) ((sA (env 14))) ((sC (env 14)))]⟩]) (F := [(14, fun env w => RowN w0.heap.size w (env 14) [n % 65536, (n / 65536) % 65536, (n / 4294967296) % 65536, n / 281474976710656])]) (L1 := fun E2 => [fun w => RowN w0.heap.size w (E2 14) [n % 65536, (n / 65536) % 65536, (n / 4294967296) % 65536, n / 281474976710656]]) (M' := fun E2 => [((pb E1 0), 46, [bF, rS (nat [n % 65536, (n / 65536) % 65536, (n / 4294967296) % 65536, n / 281474976710656]) ((sA (E2 14))) ((sC (E2 14)))])]) (hs := c_ mv_ <| c_ (bi0 (.int .u64 n) (.int .u64 65535) (h := by intro env w; simp [go_sem]; exact and_16 (by omega) (by omega))) <| c_ (cv0 (.int .u64 (n % 65536)) (h := by intro env w; simp [go_sem]; exact IntWalk.i64_in _ (by omega))) <| c_ mv_ <| c_ (bi0 (.int .u64 n) (.int .u64 16)) <| c_ (bi0 (.int .u64 (n / 65536)) (.int .u64 65535) (h := by intro env w; simp [go_sem]; exact and_16 (by omega) (by omega))) <| c_ (cv0 (.int .u64 ((n / 65536) % 65536)) (h := by intro env w; simp [go_sem]; exact IntWalk.i64_in _ (by omega))) <| c_ mv_ <| c_ (bi0 (.int .u64 n) (.int .u64 32)) <| c_ (bi0 (.int .u64 (n / 4294967296)) (.int .u64 65535) (h := by intro env w; simp [go_sem]; exact and_16 (by omega) (by omega))) <| c_ (cv0 (.int .u64 ((n / 4294967296) % 65536)) (h := by intro env w; simp [go_sem]; exact IntWalk.i64_in _ (by omega))) <| c_ mv_ <| c_ (bi0 (.int .u64 n) (.int .u64 48)) <| c_ (cv0 (.int .u64 (n / 281474976710656)) (h := by intro env w; simp [go_sem]; exact IntWalk.i64_in _ (by omega))) <| c_ (by refine s_bsN rfl rfl (fun _ => wanted_none rfl _) [n % 65536, (n / 65536) % 65536, (n / 4294967296) % 65536, n / 281474976710656] ⟨by simp, by simp⟩ rfl rfl rfl rfl (fun {D env ac wd} hA => ?_); have e5 : ac.tmps[5]? = some (vI (n % 65536)) := hA.g rfl; have e9 : ac.tmps[9]? = some (vI ((n / 65536) % 65536)) := hA.g rfl; have e13 : ac.tmps[13]? = some (vI ((n / 4294967296) % 65536)) := hA.g rfl; have e16 : ac.tmps[16]? = some (vI (n / 281474976710656)) := hA.g rfl; simp [go_sem, e5, e9, e13, e16, Try.underlying44]) <| c_ (cw_ Try.func54 (h := fun _ env _ wd hA => ⟨_, trim_core wd (sA (env 14)) (sC (env 14)) [n % 65536, (n / 65536) % 65536, (n / 4294967296) % 65536, n / 281474976710656] (At.rowN hA 14 rfl rfl rfl) (word_rg h0 h1), rfl⟩)) <| c_ (bd_ (fun env => [rS (nat [n % 65536, (n / 65536) % 65536, (n / 4294967296) % 65536, n / 281474976710656]) ((sA (env 14))) ((sC (env 14)))])) <| c_ (se_ 0 (hst := by exact fun _ _ _ hc => st46 rfl rfl rfl hc)) <| e_) (k := fun E2 ac wd h_2 => ?_)
  clear h_1
  refine then_n (wp_ret ?_)
  refine lvC (v := .agg #[.bool false, .slice ((sA (E2 14))) ((digs (nat [n % 65536, (n / 65536) % 65536, (n / 4294967296) % 65536, n / 281474976710656])).length) ((sC (E2 14)))]) Try.results36 h_2 0 (rd46 rfl rfl) ?_
  refine ⟨_, rfl, h_2.st.below, ?_⟩
  exact BigN.mk (decide_eq_false (by omega)).symm (congrArg digs (word_nat h0 h1)) (RowN.trim (word_rg h0 h1) (Facts.rN h_2.st.now 0 rfl))
theorem cmp_abs (w0 : World) (A B : Option Addr) (c k : Nat) (x y : Int) (hr : Row w0 (.slice A (digs x).length c) (digs x)) (hr2 : Row w0 (.slice B (digs y).length k) (digs y)) : Calls Try.prog 46 #[.slice A ((digs x).length) c, .slice B ((digs y).length) k] w0 fun e w' => e = .returned (vI (cmpZ x.natAbs y.natAbs)) ∧ Below w0.heap.size w0 w' := by
  have := cmp_any w0 A B c k x.natAbs y.natAbs (by omega) (by omega) (by rw [digs_natAbs]; exact hr) (by rw [digs_natAbs]; exact hr2)
  simp only [digs_natAbs] at this
  exact this
theorem add_abs (w0 : World) (A B : Option Addr) (c k : Nat) (x y : Int) (hr : Row w0 (.slice A (digs x).length c) (digs x)) (hr2 : Row w0 (.slice B (digs y).length k) (digs y)) (hx : Sm x) (hy : Sm y) : Calls Try.prog 45 #[.slice A ((digs x).length) c, .slice B ((digs y).length) k] w0 fun e w' => ∃ v, e = .returned v ∧ Below w0.heap.size w0 w' ∧ RowN w0.heap.size w' v (digs ((x.natAbs : Int) + y.natAbs)) := by
  have := add_core w0 A B c k x.natAbs y.natAbs (by omega) (by omega) (by rw [digs_natAbs]; exact hr) (by rw [digs_natAbs]; exact hr2) 21 (by omega) (by rw [digs_natAbs]; exact hx.len) (by rw [digs_natAbs]; exact hy.len)
  simp only [digs_natAbs] at this
  exact this
theorem sub_abs (w0 : World) (A B : Option Addr) (c k : Nat) (x y : Int) (hr : Row w0 (.slice A (digs x).length c) (digs x)) (hr2 : Row w0 (.slice B (digs y).length k) (digs y)) (hle : y.natAbs ≤ x.natAbs) (hx : Sm x) : Calls Try.prog 47 #[.slice A ((digs x).length) c, .slice B ((digs y).length) k] w0 fun e w' => ∃ v, e = .returned v ∧ Below w0.heap.size w0 w' ∧ RowN w0.heap.size w' v (digs ((x.natAbs : Int) - y.natAbs)) := by
  have := sub_core w0 A B c k x.natAbs y.natAbs (by omega) (by rw [digs_natAbs]; exact hr) (by rw [digs_natAbs]; exact hr2) (by omega) (by rw [digs_natAbs]; have := hx.len; omega)
  simp only [digs_natAbs] at this
  exact this
theorem len_pos {z : Int} : ((0 : Int) < ((digs z).length : Int)) ↔ z ≠ 0 := by
  have := digs_nil (z := z)
  omega
set_option maxRecDepth 100000 in
set_option maxHeartbeats 8000000 in
theorem Neg_any (w0 : World) (p : Bool) (A0 : Option Addr) (c0 : Nat) (x : Int) (hp : p = decide (x < 0)) (hr : Row w0 (.slice A0 (digs x).length c0) (digs x)) : Calls Try.prog 48 #[.agg #[.bool (p), .slice A0 ((digs x).length) c0]] w0 fun e w' => e = .returned (.agg #[.bool (decide (-x < 0)), .slice A0 ((digs (-x)).length) c0]) ∧ Below w0.heap.size w0 w' := by
  have hst := St.start w0 (Θ := fun _ => True) (fun _ _ => trivial)
  refine en_ Try.func48 hst 15 [(0, .agg #[.bool (p), .slice A0 ((digs x).length) c0])] (fun ac h => ?_)
  refine wp_seq ?_
  cases p
  have h1 : 0 ≤ x := by have := of_decide_eq_false hp.symm; omega
  refine rg_ h [[0],[1]] [KE_ fun env => vP (pb env 0) 0, KE_ fun env => vP (pb env 1) 0] (fun E1 => [(1, vP (pb E1 0) 0), (2, vP (pb E1 1) 0)]) (W := [{ i := 0, T := 46, c0 := [bF, rS x A0 c0] }, { i := 1, T := 46, c0 := [bF, .slice none 0 0] }]) (M' := fun E1 => [((pb E1 0), 46, [bF, rS x A0 c0]), ((pb E1 1), 46, [bF, .slice none 0 0])]) (hs := c_ (bx0 0 (.agg #[bF, rS x A0 c0])) <| c_ (al_ 1) <| e_) (k := fun E1 ac wd h_1 => ?_)
  clear h
  refine then_n (wp_seq ?_)
  by_cases h2 : x = 0
  refine rg_ h_1 [[0],[0,1],[0,1,2],r_ 4,r_ 5,r_ 6,r_ 7,r_ 8,r_ 9,[9],[9,10],r_ 12,r_ 13] [K_ (vP (pb E1 0) 0), K_ bF, K_ bT, K_ bT, K_ (vP (pb E1 0) 1), K_ (rS x A0 c0), K_ (vN ((digs x).length)), K_ bF, K_ bF, K_ (vP (pb E1 0) 1), K_ (rS x A0 c0), K_ (.agg #[bF, rS x A0 c0]), none] (fun E2 => [(2, vP (pb E1 1) 0)]) (S := [⟨1, 12, fun _ => [bF, rS x A0 c0]⟩]) (M' := fun E2 => [((pb E1 0), 46, [bF, rS x A0 c0]), ((pb E1 1), 46, [bF, rS x A0 c0])]) (hs := c_ (fa0 (vP (pb E1 0) 0)) <| c_ (ld_ 0 (hrd := by exact rd4 rfl)) <| c_ (un0 bF) <| c_ mv_ <| c_ (fa0 (vP (pb E1 0) 0)) <| c_ (ld_ 0 (hrd := by exact rd44 rfl)) <| c_ (ln_ Try.underlying44 fun _ env _ wd hA => (hr.grown hA.j.st.gr).els) <| c_ (bi0 (vN ((digs x).length)) (vI 0) (h := by intro env w; have h3 : digs x = [] := (by subst h2; exact digs_zero); simp [go_sem, h3])) <| c_ (pk0 bT bF bF (h := by intro env w; have h3 : digs x = [] := (by subst h2; exact digs_zero); simp [go_sem, h3])) <| c_ (fa0 (vP (pb E1 0) 0)) <| c_ (ld_ 0 (hrd := by exact rd44 rfl)) <| c_ (bd0 ([bF, rS x A0 c0])) <| c_ (se_ 1 (hst := by exact fun _ _ _ hc => st46 rfl rfl rfl hc)) <| e_) (k := fun E2 ac wd h_2 => ?_)
  clear h_1
  refine then_n (wp_ret ?_)
  refine lvC (v := .agg #[.bool false, .slice A0 ((digs x).length) c0]) Try.results48 h_2 1 (rd46 rfl rfl) ?_
  exact ⟨by rw [show decide (-x < 0) = false from decide_eq_false (by omega), digs_neg], h_2.st.below⟩
  refine rg_ h_1 [[0],[0,1],[0,1,2],r_ 4,r_ 5,r_ 6,r_ 7,r_ 8,r_ 9,[9],[9,10],r_ 12,r_ 13] [K_ (vP (pb E1 0) 0), K_ bF, K_ bT, K_ bT, K_ (vP (pb E1 0) 1), K_ (rS x A0 c0), K_ (vN ((digs x).length)), K_ bT, K_ bT, K_ (vP (pb E1 0) 1), K_ (rS x A0 c0), K_ (.agg #[bT, rS x A0 c0]), none] (fun E2 => [(2, vP (pb E1 1) 0)]) (S := [⟨1, 12, fun _ => [bT, rS x A0 c0]⟩]) (M' := fun E2 => [((pb E1 0), 46, [bF, rS x A0 c0]), ((pb E1 1), 46, [bT, rS x A0 c0])]) (hs := c_ (fa0 (vP (pb E1 0) 0)) <| c_ (ld_ 0 (hrd := by exact rd4 rfl)) <| c_ (un0 bF) <| c_ mv_ <| c_ (fa0 (vP (pb E1 0) 0)) <| c_ (ld_ 0 (hrd := by exact rd44 rfl)) <| c_ (ln_ Try.underlying44 fun _ env _ wd hA => (hr.grown hA.j.st.gr).els) <| c_ (bi0 (vN ((digs x).length)) (vI 0) (h := by intro env w; have h3 : digs x ≠ [] := fun e => h2 (digs_nil.1 (by rw [e]; rfl)); first | (simp [go_sem]; done) | (simp [go_sem]; exact List.length_pos_iff.2 h3))) <| c_ (pk0 bT bT bF (h := by intro env w; have h3 : digs x ≠ [] := fun e => h2 (digs_nil.1 (by rw [e]; rfl)); first | (simp [go_sem]; done) | (simp [go_sem]; exact List.length_pos_iff.2 h3))) <| c_ (fa0 (vP (pb E1 0) 0)) <| c_ (ld_ 0 (hrd := by exact rd44 rfl)) <| c_ (bd0 ([bT, rS x A0 c0])) <| c_ (se_ 1 (hst := by exact fun _ _ _ hc => st46 rfl rfl rfl hc)) <| e_) (k := fun E2 ac wd h_2 => ?_)
  clear h_1
  refine then_n (wp_ret ?_)
  refine lvC (v := .agg #[.bool true, .slice A0 ((digs x).length) c0]) Try.results48 h_2 1 (rd46 rfl rfl) ?_
  exact ⟨by rw [show decide (-x < 0) = true from decide_eq_true (by omega), digs_neg], h_2.st.below⟩
  have h1 : x < 0 := of_decide_eq_true hp.symm
  refine rg_ h [[0],[1]] [KE_ fun env => vP (pb env 0) 0, KE_ fun env => vP (pb env 1) 0] (fun E1 => [(1, vP (pb E1 0) 0), (2, vP (pb E1 1) 0)]) (W := [{ i := 0, T := 46, c0 := [bT, rS x A0 c0] }, { i := 1, T := 46, c0 := [bF, .slice none 0 0] }]) (M' := fun E1 => [((pb E1 0), 46, [bT, rS x A0 c0]), ((pb E1 1), 46, [bF, .slice none 0 0])]) (hs := c_ (bx0 0 (.agg #[bT, rS x A0 c0])) <| c_ (al_ 1) <| e_) (k := fun E1 ac wd h_1 => ?_)
  clear h
  refine then_n (wp_seq ?_)
  refine rg_ h_1 [[0],[0,1],[0,1,2],r_ 4,r_ 5,r_ 6,r_ 7,r_ 8,r_ 9,[9],[9,10],r_ 12,r_ 13] [K_ (vP (pb E1 0) 0), K_ bT, K_ bF, K_ bF, K_ undef, K_ undef, K_ undef, K_ undef, K_ bF, K_ (vP (pb E1 0) 1), K_ (rS x A0 c0), K_ (.agg #[bF, rS x A0 c0]), none] (fun E2 => [(2, vP (pb E1 1) 0)]) (S := [⟨1, 12, fun _ => [bF, rS x A0 c0]⟩]) (M' := fun E2 => [((pb E1 0), 46, [bT, rS x A0 c0]), ((pb E1 1), 46, [bF, rS x A0 c0])]) (hs := c_ (fa0 (vP (pb E1 0) 0)) <| c_ (ld_ 0 (hrd := by exact rd4 rfl)) <| c_ (un0 bT) <| c_ mv_ <| c_ off_ <| c_ off_ <| c_ off_ <| c_ off_ <| c_ (pk0 bF undef bF) <| c_ (fa0 (vP (pb E1 0) 0)) <| c_ (ld_ 0 (hrd := by exact rd44 rfl)) <| c_ (bd0 ([bF, rS x A0 c0])) <| c_ (se_ 1 (hst := by exact fun _ _ _ hc => st46 rfl rfl rfl hc)) <| e_) (k := fun E2 ac wd h_2 => ?_)
  clear h_1
  refine then_n (wp_ret ?_)
  refine lvC (v := .agg #[.bool false, .slice A0 ((digs x).length) c0]) Try.results48 h_2 1 (rd46 rfl rfl) ?_
  exact ⟨by rw [show decide (-x < 0) = false from decide_eq_false (by omega), digs_neg], h_2.st.below⟩
set_option maxRecDepth 100000 in
set_option maxHeartbeats 8000000 in
theorem Cmp_any (w0 : World) (p : Bool) (A0 : Option Addr) (c0 : Nat) (x : Int) (hp : p = decide (x < 0)) (hr : Row w0 (.slice A0 (digs x).length c0) (digs x))  (q : Bool) (B0 : Option Addr) (k0 : Nat) (y : Int) (hq : q = decide (y < 0)) (hr2 : Row w0 (.slice B0 (digs y).length k0) (digs y))  : Calls Try.prog 28 #[.agg #[.bool (p), .slice A0 ((digs x).length) c0], .agg #[.bool (q), .slice B0 ((digs y).length) k0]] w0 fun e w' => e = .returned (vI (cmpZ x y)) ∧ Below w0.heap.size w0 w' := by
  have hst := St.start w0 (Θ := fun _ => True) (fun _ _ => trivial)
  refine en_ Try.func28 hst 24 [(0, .agg #[.bool (p), .slice A0 ((digs x).length) c0]), (1, .agg #[.bool (q), .slice B0 ((digs y).length) k0])] (fun ac h => ?_)
  refine wp_seq ?_
  cases p
  have h1 : 0 ≤ x := by have := of_decide_eq_false hp.symm; omega
  cases q
  have h2 : 0 ≤ y := by have := of_decide_eq_false hq.symm; omega
  refine rg_ h [[0],[1],[2]] [KE_ fun env => vP (pb env 0) 0, KE_ fun env => vP (pb env 1) 0, K_ (vI 0)] (fun E1 => [(2, vP (pb E1 0) 0), (3, vP (pb E1 1) 0), (4, vI 0)]) (W := [{ i := 0, T := 46, c0 := [bF, rS x A0 c0] }, { i := 1, T := 46, c0 := [bF, rS y B0 k0] }]) (M' := fun E1 => [((pb E1 0), 46, [bF, rS x A0 c0]), ((pb E1 1), 46, [bF, rS y B0 k0])]) (hs := c_ (bx0 0 (.agg #[bF, rS x A0 c0])) <| c_ (bx0 1 (.agg #[bF, rS y B0 k0])) <| c_ mv_ <| e_) (k := fun E1 ac wd h_1 => ?_)
  clear h
  refine then_n (wp_seq (wp_seq ?_))
  refine rg_ h_1 [[0],[0,1],[2],[2,3],r_ 5] [K_ (vP (pb E1 0) 0), K_ bF, K_ (vP (pb E1 1) 0), K_ bF, K_ bF] (fun E2 => [(2, vP (pb E1 0) 0), (3, vP (pb E1 1) 0), (4, vI 0), (9, bF)]) (hs := c_ (fa0 (vP (pb E1 0) 0)) <| c_ (ld_ 0 (hrd := by exact rd4 rfl)) <| c_ (fa0 (vP (pb E1 1) 0)) <| c_ (ld_ 1 (hrd := by exact rd4 rfl)) <| c_ (bi0 bF bF) <| e_) (k := fun E2 ac wd h_2 => ?_)
  clear h_1
  refine then_n ?_
  refine cF_ h_2 ?_
  refine wp_skip (then_n (wp_seq (wp_seq ?_)))
  refine rg_ h_2 [[0],[0,1]] [K_ (vP (pb E1 0) 0), K_ bF] (fun E3 => [(2, vP (pb E1 0) 0), (3, vP (pb E1 1) 0), (4, vI 0), (13, bF)]) (hs := c_ (fa0 (vP (pb E1 0) 0)) <| c_ (ld_ 0 (hrd := by exact rd4 rfl)) <| e_) (k := fun E3 ac wd h_3 => ?_)
  clear h_2
  refine then_n ?_
  refine cF_ h_3 ?_
  refine wp_skip (then_n (wp_seq ?_))
  refine rg_ h_3 [[0],[0,1],[2],[2,3],r_ 5,r_ 6] [K_ (vP (pb E1 0) 1), K_ (rS x A0 c0), K_ (vP (pb E1 1) 1), K_ (rS y B0 k0), K_ (vI (cmpZ x.natAbs y.natAbs)), K_ (vI (cmpZ x.natAbs y.natAbs))] (fun E4 => [(4, vI (cmpZ x.natAbs y.natAbs))]) (hs := c_ (fa0 (vP (pb E1 0) 0)) <| c_ (ld_ 0 (hrd := by exact rd44 rfl)) <| c_ (fa0 (vP (pb E1 1) 0)) <| c_ (ld_ 1 (hrd := by exact rd44 rfl)) <| c_ (cw_ Try.func46 (h := fun _ env _ wd hA => ⟨_, cmp_abs wd A0 B0 c0 k0 x y (hr.grown hA.j.st.gr) (hr2.grown hA.j.st.gr), rfl⟩)) <| c_ mv_ <| e_) (k := fun E4 ac wd h_4 => ?_)
  clear h_3
  refine then_n (wp_ret ?_)
  refine lvT Try.results28 h_4 ?_
  exact ⟨by rw [show cmpZ x y = cmpZ x.natAbs y.natAbs by unfold cmpZ; split <;> (try split) <;> (try split) <;> (try split) <;> omega], h_4.st.below⟩
  have h2 : y < 0 := of_decide_eq_true hq.symm
  refine rg_ h [[0],[1],[2]] [KE_ fun env => vP (pb env 0) 0, KE_ fun env => vP (pb env 1) 0, K_ (vI 0)] (fun E1 => [(2, vP (pb E1 0) 0), (3, vP (pb E1 1) 0), (4, vI 0)]) (W := [{ i := 0, T := 46, c0 := [bF, rS x A0 c0] }, { i := 1, T := 46, c0 := [bT, rS y B0 k0] }]) (M' := fun E1 => [((pb E1 0), 46, [bF, rS x A0 c0]), ((pb E1 1), 46, [bT, rS y B0 k0])]) (hs := c_ (bx0 0 (.agg #[bF, rS x A0 c0])) <| c_ (bx0 1 (.agg #[bT, rS y B0 k0])) <| c_ mv_ <| e_) (k := fun E1 ac wd h_1 => ?_)
  clear h
  refine then_n (wp_seq (wp_seq ?_))
  refine rg_ h_1 [[0],[0,1],[2],[2,3],r_ 5] [K_ (vP (pb E1 0) 0), K_ bF, K_ (vP (pb E1 1) 0), K_ bT, K_ bT] (fun E2 => [(2, vP (pb E1 0) 0), (3, vP (pb E1 1) 0), (4, vI 0), (9, bT)]) (hs := c_ (fa0 (vP (pb E1 0) 0)) <| c_ (ld_ 0 (hrd := by exact rd4 rfl)) <| c_ (fa0 (vP (pb E1 1) 0)) <| c_ (ld_ 1 (hrd := by exact rd4 rfl)) <| c_ (bi0 bF bT) <| e_) (k := fun E2 ac wd h_2 => ?_)
  clear h_1
  refine then_n ?_
  refine cT_ h_2 ?_
  refine wp_seq (wp_seq ?_)
  refine rg_ h_2 [[0],[0,1]] [K_ (vP (pb E1 0) 0), K_ bF] (fun E3 => [(2, vP (pb E1 0) 0), (3, vP (pb E1 1) 0), (4, vI 0), (11, bF)]) (hs := c_ (fa0 (vP (pb E1 0) 0)) <| c_ (ld_ 0 (hrd := by exact rd4 rfl)) <| e_) (k := fun E3 ac wd h_3 => ?_)
  clear h_2
  refine then_n ?_
  refine cF_ h_3 ?_
  refine wp_skip (then_n (wp_seq ?_))
  refine rg_ h_3 [[0]] [K_ (vI 1)] (fun E4 => [(2, vP (pb E1 0) 0), (3, vP (pb E1 1) 0), (4, vI 1)]) (hs := c_ mv_ <| e_) (k := fun E4 ac wd h_4 => ?_)
  clear h_3
  refine then_n (wp_ret (then_ret ?_))
  refine lvT Try.results28 h_4 ?_
  exact ⟨by rw [show cmpZ x y = 1 by unfold cmpZ; first | (rw [if_pos (by omega)]) | (rw [if_neg (by omega), if_pos (by omega)])], h_4.st.below⟩
  have h1 : x < 0 := of_decide_eq_true hp.symm
  cases q
  have h2 : 0 ≤ y := by have := of_decide_eq_false hq.symm; omega
  refine rg_ h [[0],[1],[2]] [KE_ fun env => vP (pb env 0) 0, KE_ fun env => vP (pb env 1) 0, K_ (vI 0)] (fun E1 => [(2, vP (pb E1 0) 0), (3, vP (pb E1 1) 0), (4, vI 0)]) (W := [{ i := 0, T := 46, c0 := [bT, rS x A0 c0] }, { i := 1, T := 46, c0 := [bF, rS y B0 k0] }]) (M' := fun E1 => [((pb E1 0), 46, [bT, rS x A0 c0]), ((pb E1 1), 46, [bF, rS y B0 k0])]) (hs := c_ (bx0 0 (.agg #[bT, rS x A0 c0])) <| c_ (bx0 1 (.agg #[bF, rS y B0 k0])) <| c_ mv_ <| e_) (k := fun E1 ac wd h_1 => ?_)
  clear h
  refine then_n (wp_seq (wp_seq ?_))
  refine rg_ h_1 [[0],[0,1],[2],[2,3],r_ 5] [K_ (vP (pb E1 0) 0), K_ bT, K_ (vP (pb E1 1) 0), K_ bF, K_ bT] (fun E2 => [(2, vP (pb E1 0) 0), (3, vP (pb E1 1) 0), (4, vI 0), (9, bT)]) (hs := c_ (fa0 (vP (pb E1 0) 0)) <| c_ (ld_ 0 (hrd := by exact rd4 rfl)) <| c_ (fa0 (vP (pb E1 1) 0)) <| c_ (ld_ 1 (hrd := by exact rd4 rfl)) <| c_ (bi0 bT bF) <| e_) (k := fun E2 ac wd h_2 => ?_)
  clear h_1
  refine then_n ?_
  refine cT_ h_2 ?_
  refine wp_seq (wp_seq ?_)
  refine rg_ h_2 [[0],[0,1]] [K_ (vP (pb E1 0) 0), K_ bT] (fun E3 => [(2, vP (pb E1 0) 0), (3, vP (pb E1 1) 0), (4, vI 0), (11, bT)]) (hs := c_ (fa0 (vP (pb E1 0) 0)) <| c_ (ld_ 0 (hrd := by exact rd4 rfl)) <| e_) (k := fun E3 ac wd h_3 => ?_)
  clear h_2
  refine then_n ?_
  refine cT_ h_3 ?_
  refine wp_seq ?_
  refine rg_ h_3 [[0]] [K_ (vI (-1))] (fun E4 => [(2, vP (pb E1 0) 0), (3, vP (pb E1 1) 0), (4, vI (-1))]) (hs := c_ mv_ <| e_) (k := fun E4 ac wd h_4 => ?_)
  clear h_3
  refine then_n (wp_ret (then_ret (then_ret ?_)))
  refine lvT Try.results28 h_4 ?_
  exact ⟨by rw [show cmpZ x y = -1 by unfold cmpZ; first | (rw [if_pos (by omega)]) | (rw [if_neg (by omega), if_pos (by omega)])], h_4.st.below⟩
  have h2 : y < 0 := of_decide_eq_true hq.symm
  refine rg_ h [[0],[1],[2]] [KE_ fun env => vP (pb env 0) 0, KE_ fun env => vP (pb env 1) 0, K_ (vI 0)] (fun E1 => [(2, vP (pb E1 0) 0), (3, vP (pb E1 1) 0), (4, vI 0)]) (W := [{ i := 0, T := 46, c0 := [bT, rS x A0 c0] }, { i := 1, T := 46, c0 := [bT, rS y B0 k0] }]) (M' := fun E1 => [((pb E1 0), 46, [bT, rS x A0 c0]), ((pb E1 1), 46, [bT, rS y B0 k0])]) (hs := c_ (bx0 0 (.agg #[bT, rS x A0 c0])) <| c_ (bx0 1 (.agg #[bT, rS y B0 k0])) <| c_ mv_ <| e_) (k := fun E1 ac wd h_1 => ?_)
  clear h
  refine then_n (wp_seq (wp_seq ?_))
  refine rg_ h_1 [[0],[0,1],[2],[2,3],r_ 5] [K_ (vP (pb E1 0) 0), K_ bT, K_ (vP (pb E1 1) 0), K_ bT, K_ bF] (fun E2 => [(2, vP (pb E1 0) 0), (3, vP (pb E1 1) 0), (4, vI 0), (9, bF)]) (hs := c_ (fa0 (vP (pb E1 0) 0)) <| c_ (ld_ 0 (hrd := by exact rd4 rfl)) <| c_ (fa0 (vP (pb E1 1) 0)) <| c_ (ld_ 1 (hrd := by exact rd4 rfl)) <| c_ (bi0 bT bT) <| e_) (k := fun E2 ac wd h_2 => ?_)
  clear h_1
  refine then_n ?_
  refine cF_ h_2 ?_
  refine wp_skip (then_n (wp_seq (wp_seq ?_)))
  refine rg_ h_2 [[0],[0,1]] [K_ (vP (pb E1 0) 0), K_ bT] (fun E3 => [(2, vP (pb E1 0) 0), (3, vP (pb E1 1) 0), (4, vI 0), (13, bT)]) (hs := c_ (fa0 (vP (pb E1 0) 0)) <| c_ (ld_ 0 (hrd := by exact rd4 rfl)) <| e_) (k := fun E3 ac wd h_3 => ?_)
  clear h_2
  refine then_n ?_
  refine cT_ h_3 ?_
  refine wp_seq ?_
  refine rg_ h_3 [[0],[0,1],[2],[2,3],r_ 5,r_ 6] [K_ (vP (pb E1 1) 1), K_ (rS y B0 k0), K_ (vP (pb E1 0) 1), K_ (rS x A0 c0), K_ (vI (cmpZ y.natAbs x.natAbs)), K_ (vI (cmpZ y.natAbs x.natAbs))] (fun E4 => [(2, vP (pb E1 0) 0), (3, vP (pb E1 1) 0), (4, vI (cmpZ y.natAbs x.natAbs))]) (hs := c_ (fa0 (vP (pb E1 1) 0)) <| c_ (ld_ 1 (hrd := by exact rd44 rfl)) <| c_ (fa0 (vP (pb E1 0) 0)) <| c_ (ld_ 0 (hrd := by exact rd44 rfl)) <| c_ (cw_ Try.func46 (h := fun _ env _ wd hA => ⟨_, cmp_abs wd B0 A0 k0 c0 y x (hr2.grown hA.j.st.gr) (hr.grown hA.j.st.gr), rfl⟩)) <| c_ mv_ <| e_) (k := fun E4 ac wd h_4 => ?_)
  clear h_3
  refine then_n (wp_ret (then_ret ?_))
  refine lvT Try.results28 h_4 ?_
  exact ⟨by rw [show cmpZ x y = cmpZ y.natAbs x.natAbs by unfold cmpZ; split <;> (try split) <;> (try split) <;> (try split) <;> omega], h_4.st.below⟩
set_option maxRecDepth 100000 in
set_option maxHeartbeats 8000000 in
theorem Same_any (w0 : World) (p : Bool) (A0 : Option Addr) (c0 : Nat) (x : Int) (hp : p = decide (x < 0)) (hr : Row w0 (.slice A0 (digs x).length c0) (digs x))  (q : Bool) (B0 : Option Addr) (k0 : Nat) (y : Int) (hq : q = decide (y < 0)) (hr2 : Row w0 (.slice B0 (digs y).length k0) (digs y))  : Calls Try.prog 13 #[.agg #[.bool (p), .slice A0 ((digs x).length) c0], .agg #[.bool (q), .slice B0 ((digs y).length) k0]] w0 fun e w' => e = .returned (.bool (decide (x = y))) ∧ Below w0.heap.size w0 w' := by
  have hst := St.start w0 (Θ := fun _ => True) (fun _ _ => trivial)
  refine en_ Try.func13 hst 9 [(0, .agg #[.bool (p), .slice A0 ((digs x).length) c0]), (1, .agg #[.bool (q), .slice B0 ((digs y).length) k0])] (fun ac h => ?_)
  refine wp_seq ?_
  refine rg_ h [[0],[1],[2]] [KE_ fun env => vP (pb env 0) 0, KE_ fun env => vP (pb env 1) 0, K_ bF] (fun E1 => [(2, vP (pb E1 0) 0), (3, vP (pb E1 1) 0), (4, bF)]) (W := [{ i := 0, T := 46, c0 := [.bool (p), rS x A0 c0] }, { i := 1, T := 46, c0 := [.bool (q), rS y B0 k0] }]) (M' := fun E1 => [((pb E1 0), 46, [.bool (p), rS x A0 c0]), ((pb E1 1), 46, [.bool (q), rS y B0 k0])]) (hs := c_ (bx0 0 (.agg #[.bool (p), rS x A0 c0])) <| c_ (bx0 1 (.agg #[.bool (q), rS y B0 k0])) <| c_ mv_ <| e_) (k := fun E1 ac wd h_1 => ?_)
  clear h
  refine then_n (wp_seq ?_)
  refine rg_ h_1 [[0],[1],[0,1,2],r_ 4,r_ 5] [K_ (.agg #[.bool (p), rS x A0 c0]), K_ (.agg #[.bool (q), rS y B0 k0]), K_ (vI (cmpZ x y)), K_ (.bool (decide (x = y))), K_ (.bool (decide (x = y)))] (fun E2 => [(4, .bool (decide (x = y)))]) (hs := c_ (ld_ 0 (hrd := by exact rd46 rfl rfl)) <| c_ (ld_ 1 (hrd := by exact rd46 rfl rfl)) <| c_ (cw_ Try.func28 (h := fun _ env _ wd hA => ⟨_, Cmp_any wd p A0 c0 x hp (hr.grown hA.j.st.gr) q B0 k0 y hq (hr2.grown hA.j.st.gr), rfl⟩)) <| c_ (bi0 (vI (cmpZ x y)) (vI 0) (h := by intro env w; simp [go_sem]; unfold cmpZ; split <;> (try split) <;> simp <;> omega)) <| c_ mv_ <| e_) (k := fun E2 ac wd h_2 => ?_)
  clear h_1
  refine then_n (wp_ret ?_)
  refine lvT Try.results13 h_2 ?_
  exact ⟨rfl, h_2.st.below⟩
set_option maxRecDepth 100000 in
set_option maxHeartbeats 8000000 in
theorem Add_any (w0 : World) (p : Bool) (A0 : Option Addr) (c0 : Nat) (x : Int) (hp : p = decide (x < 0)) (hr : Row w0 (.slice A0 (digs x).length c0) (digs x)) (hx : Sm x) (q : Bool) (B0 : Option Addr) (k0 : Nat) (y : Int) (hq : q = decide (y < 0)) (hr2 : Row w0 (.slice B0 (digs y).length k0) (digs y)) (hy : Sm y) : Calls Try.prog 22 #[.agg #[.bool (p), .slice A0 ((digs x).length) c0], .agg #[.bool (q), .slice B0 ((digs y).length) k0]] w0 fun e w' => ∃ v, e = .returned v ∧ Below w0.heap.size w0 w' ∧ BigN w0.heap.size w' v (x + y) := by
  have hst := St.start w0 (Θ := fun _ => True) (fun _ _ => trivial)
  refine en_ Try.func22 hst 41 [(0, .agg #[.bool (p), .slice A0 ((digs x).length) c0]), (1, .agg #[.bool (q), .slice B0 ((digs y).length) k0])] (fun ac h => ?_)
  replace h := h.facts
  refine wp_seq ?_
  cases p
  have h1 : 0 ≤ x := by have := of_decide_eq_false hp.symm; omega
  cases q
  have h2 : 0 ≤ y := by have := of_decide_eq_false hq.symm; omega
  refine rf_ h [[0],[1],[2]] [KE_ fun env => vP (pb env 0) 0, KE_ fun env => vP (pb env 1) 0, KE_ fun env => vP (pb env 2) 0] (fun E1 => [(2, vP (pb E1 0) 0), (3, vP (pb E1 1) 0), (4, vP (pb E1 2) 0)]) (W := [{ i := 0, T := 46, c0 := [bF, rS x A0 c0] }, { i := 1, T := 46, c0 := [bF, rS y B0 k0] }, { i := 2, T := 46, c0 := [bF, .slice none 0 0] }]) (M' := fun E1 => [((pb E1 0), 46, [bF, rS x A0 c0]), ((pb E1 1), 46, [bF, rS y B0 k0]), ((pb E1 2), 46, [bF, .slice none 0 0])]) (hs := c_ (bx0 0 (.agg #[bF, rS x A0 c0])) <| c_ (bx0 1 (.agg #[bF, rS y B0 k0])) <| c_ (al_ 2) <| e_) (k := fun E1 ac wd h_1 => ?_)
  clear h
  refine then_n (wp_seq (wp_seq ?_))
  refine rf_ h_1 [[0],[0,1],[2],[2,3],r_ 5] [K_ (vP (pb E1 0) 0), K_ bF, K_ (vP (pb E1 1) 0), K_ bF, K_ bT] (fun E2 => [(2, vP (pb E1 0) 0), (3, vP (pb E1 1) 0), (4, vP (pb E1 2) 0), (10, bT)]) (hs := c_ (fa0 (vP (pb E1 0) 0)) <| c_ (ld_ 0 (hrd := by exact rd4 rfl)) <| c_ (fa0 (vP (pb E1 1) 0)) <| c_ (ld_ 1 (hrd := by exact rd4 rfl)) <| c_ (bi0 bF bF) <| e_) (k := fun E2 ac wd h_2 => ?_)
  clear h_1
  refine then_n ?_
  refine cT_ h_2 ?_
  refine wp_seq ?_
  refine rf_ h_2 [[0],[0,1],[2],[2,3],[4],[4,5],[2,3,4,5,6],r_ 8,r_ 9] [K_ (vP (pb E1 0) 0), K_ bF, K_ (vP (pb E1 0) 1), K_ (rS x A0 c0), K_ (vP (pb E1 1) 1), K_ (rS y B0 k0), KE_ fun env => rS ((x.natAbs : Int) + y.natAbs) ((sA (env 6))) ((sC (env 6))), KE_ fun env => .agg #[bF, rS ((x.natAbs : Int) + y.natAbs) ((sA (env 6))) ((sC (env 6)))], none] (fun E3 => [(2, vP (pb E1 0) 0), (3, vP (pb E1 1) 0), (4, vP (pb E1 2) 0)]) (S := [⟨2, 8, fun env => [bF, rS ((x.natAbs : Int) + y.natAbs) ((sA (env 6))) ((sC (env 6)))]⟩]) (F := [(6, fun env w => RowN w0.heap.size w (env 6) (digs ((x.natAbs : Int) + y.natAbs)))]) (L1 := fun E3 => [fun w => RowN w0.heap.size w (E3 6) (digs ((x.natAbs : Int) + y.natAbs))]) (M' := fun E3 => [((pb E1 0), 46, [bF, rS x A0 c0]), ((pb E1 1), 46, [bF, rS y B0 k0]), ((pb E1 2), 46, [bF, rS ((x.natAbs : Int) + y.natAbs) ((sA (E3 6))) ((sC (E3 6)))])]) (hs := c_ (fa0 (vP (pb E1 0) 0)) <| c_ (ld_ 0 (hrd := by exact rd4 rfl)) <| c_ (fa0 (vP (pb E1 0) 0)) <| c_ (ld_ 0 (hrd := by exact rd44 rfl)) <| c_ (fa0 (vP (pb E1 1) 0)) <| c_ (ld_ 1 (hrd := by exact rd44 rfl)) <| c_ (cf_ Try.func45 (fun v w => RowN w0.heap.size w v (digs ((x.natAbs : Int) + y.natAbs))) (slF (digs ((x.natAbs : Int) + y.natAbs))) (h := fun _ env _ wd hA => ⟨_, upR hA.j.st.gr.size (add_abs wd A0 B0 c0 k0 x y (hr.grown hA.j.st.gr) (hr2.grown hA.j.st.gr) hx hy), rfl⟩)) <| c_ (bd_ (fun env => [bF, rS ((x.natAbs : Int) + y.natAbs) ((sA (env 6))) ((sC (env 6)))])) <| c_ (se_ 2 (hst := by exact fun _ _ _ hc => st46 rfl rfl rfl hc)) <| e_) (k := fun E3 ac wd h_3 => ?_)
  clear h_2
  refine then_n (wp_ret (then_ret ?_))
  refine lvC (v := .agg #[.bool false, .slice ((sA (E3 6))) ((digs ((x.natAbs : Int) + y.natAbs)).length) ((sC (E3 6)))]) Try.results22 h_3 2 (rd46 rfl rfl) ?_
  refine ⟨_, rfl, h_3.st.below, BigN.mk (decide_eq_false (by omega)).symm ?_ (Facts.rN h_3.st.now 0 rfl)⟩
  first | exact congrArg digs (by omega) | (rw [← digs_neg]; exact congrArg digs (by omega))
  have h2 : y < 0 := of_decide_eq_true hq.symm
  refine rf_ h [[0],[1],[2]] [KE_ fun env => vP (pb env 0) 0, KE_ fun env => vP (pb env 1) 0, KE_ fun env => vP (pb env 2) 0] (fun E1 => [(2, vP (pb E1 0) 0), (3, vP (pb E1 1) 0), (4, vP (pb E1 2) 0)]) (W := [{ i := 0, T := 46, c0 := [bF, rS x A0 c0] }, { i := 1, T := 46, c0 := [bT, rS y B0 k0] }, { i := 2, T := 46, c0 := [bF, .slice none 0 0] }]) (M' := fun E1 => [((pb E1 0), 46, [bF, rS x A0 c0]), ((pb E1 1), 46, [bT, rS y B0 k0]), ((pb E1 2), 46, [bF, .slice none 0 0])]) (hs := c_ (bx0 0 (.agg #[bF, rS x A0 c0])) <| c_ (bx0 1 (.agg #[bT, rS y B0 k0])) <| c_ (al_ 2) <| e_) (k := fun E1 ac wd h_1 => ?_)
  clear h
  refine then_n (wp_seq (wp_seq ?_))
  refine rf_ h_1 [[0],[0,1],[2],[2,3],r_ 5] [K_ (vP (pb E1 0) 0), K_ bF, K_ (vP (pb E1 1) 0), K_ bT, K_ bF] (fun E2 => [(2, vP (pb E1 0) 0), (3, vP (pb E1 1) 0), (4, vP (pb E1 2) 0), (10, bF)]) (hs := c_ (fa0 (vP (pb E1 0) 0)) <| c_ (ld_ 0 (hrd := by exact rd4 rfl)) <| c_ (fa0 (vP (pb E1 1) 0)) <| c_ (ld_ 1 (hrd := by exact rd4 rfl)) <| c_ (bi0 bF bT) <| e_) (k := fun E2 ac wd h_2 => ?_)
  clear h_1
  refine then_n ?_
  refine cF_ h_2 ?_
  refine wp_skip (then_n (wp_seq (wp_seq ?_)))
  by_cases h3 : x.natAbs < y.natAbs
  refine rf_ h_2 [[0],[0,1],[2],[2,3],r_ 5,r_ 6] [K_ (vP (pb E1 0) 1), K_ (rS x A0 c0), K_ (vP (pb E1 1) 1), K_ (rS y B0 k0), K_ (vI (cmpZ x.natAbs y.natAbs)), K_ bT] (fun E3 => [(2, vP (pb E1 0) 0), (3, vP (pb E1 1) 0), (4, vP (pb E1 2) 0), (24, bT)]) (hs := c_ (fa0 (vP (pb E1 0) 0)) <| c_ (ld_ 0 (hrd := by exact rd44 rfl)) <| c_ (fa0 (vP (pb E1 1) 0)) <| c_ (ld_ 1 (hrd := by exact rd44 rfl)) <| c_ (cw_ Try.func46 (h := fun _ env _ wd hA => ⟨_, cmp_abs wd A0 B0 c0 k0 x y (hr.grown hA.j.st.gr) (hr2.grown hA.j.st.gr), rfl⟩)) <| c_ (bi0 (vI (cmpZ x.natAbs y.natAbs)) (vI 0) (h := by intro env w; simp [go_sem]; unfold cmpZ; split <;> (try split) <;> omega)) <| e_) (k := fun E3 ac wd h_3 => ?_)
  clear h_2
  refine then_n ?_
  refine cT_ h_3 ?_
  refine rf_ h_3 [[0],[1],[0,1,2],r_ 4] [K_ (.agg #[bT, rS y B0 k0]), K_ (.agg #[bF, rS x A0 c0]), none, none] (fun E4 => [(2, vP (pb E1 0) 0), (3, vP (pb E1 1) 0), (4, vP (pb E1 2) 0)]) (S := [⟨0, 2, fun _ => [bT, rS y B0 k0]⟩, ⟨1, 3, fun _ => [bF, rS x A0 c0]⟩]) (M' := fun E4 => [((pb E1 0), 46, [bT, rS y B0 k0]), ((pb E1 1), 46, [bF, rS x A0 c0]), ((pb E1 2), 46, [bF, .slice none 0 0])]) (hs := c_ (ld_ 1 (hrd := by exact rd46 rfl rfl)) <| c_ (ld_ 0 (hrd := by exact rd46 rfl rfl)) <| c_ (se_ 0 (hst := by exact fun _ _ _ hc => st46 rfl rfl rfl hc)) <| c_ (se_ 1 (hst := by exact fun _ _ _ hc => st46 rfl rfl rfl hc)) <| e_) (k := fun E4 ac wd h_4 => ?_)
  clear h_3
  refine then_n (wp_seq ?_)
  refine rf_ h_4 [[0],[0,1],[2],[2,3],r_ 5,r_ 6] [K_ (vP (pb E1 0) 1), K_ (rS y B0 k0), K_ (vP (pb E1 1) 1), K_ (rS x A0 c0), KE_ fun env => rS ((y.natAbs : Int) - x.natAbs) ((sA (env 4))) ((sC (env 4))), KE_ fun env => rS ((y.natAbs : Int) - x.natAbs) ((sA (env 4))) ((sC (env 4)))] (fun E5 => [(2, vP (pb E1 0) 0), (4, vP (pb E1 2) 0), (5, rS ((y.natAbs : Int) - x.natAbs) ((sA (E5 4))) ((sC (E5 4))))]) (F := [(4, fun env w => RowN w0.heap.size w (env 4) (digs ((y.natAbs : Int) - x.natAbs)))]) (L1 := fun E5 => [fun w => RowN w0.heap.size w (E5 4) (digs ((y.natAbs : Int) - x.natAbs))]) (hs := c_ (fa0 (vP (pb E1 0) 0)) <| c_ (ld_ 0 (hrd := by exact rd44 rfl)) <| c_ (fa0 (vP (pb E1 1) 0)) <| c_ (ld_ 1 (hrd := by exact rd44 rfl)) <| c_ (cf_ Try.func47 (fun v w => RowN w0.heap.size w v (digs ((y.natAbs : Int) - x.natAbs))) (slF (digs ((y.natAbs : Int) - x.natAbs))) (h := fun _ env _ wd hA => ⟨_, upR hA.j.st.gr.size (sub_abs wd B0 A0 k0 c0 y x (hr2.grown hA.j.st.gr) (hr.grown hA.j.st.gr) (by omega) hy), rfl⟩)) <| c_ mv_ <| e_) (k := fun E5 ac wd h_5 => ?_)
  clear h_4
  refine then_n (wp_seq ?_)
  by_cases h4 : x.natAbs = y.natAbs
  refine rf_ h_5 [[0],[0,1],[0,1,2],r_ 4,r_ 5,r_ 6,r_ 7,[7],r_ 9,r_ 10] [K_ (vP (pb E1 0) 0), K_ bT, K_ bT, K_ (rS ((y.natAbs : Int) - x.natAbs) ((sA (E5 4))) ((sC (E5 4)))), K_ (vN ((digs ((y.natAbs : Int) - x.natAbs)).length)), K_ bF, K_ bF, K_ (rS ((y.natAbs : Int) - x.natAbs) ((sA (E5 4))) ((sC (E5 4)))), K_ (.agg #[bF, rS ((y.natAbs : Int) - x.natAbs) ((sA (E5 4))) ((sC (E5 4)))]), none] (fun E6 => [(4, vP (pb E1 2) 0)]) (S := [⟨2, 9, fun _ => [bF, rS ((y.natAbs : Int) - x.natAbs) ((sA (E5 4))) ((sC (E5 4)))]⟩]) (M' := fun E6 => [((pb E1 0), 46, [bT, rS y B0 k0]), ((pb E1 1), 46, [bF, rS x A0 c0]), ((pb E1 2), 46, [bF, rS ((y.natAbs : Int) - x.natAbs) ((sA (E5 4))) ((sC (E5 4)))])]) (hs := c_ (fa0 (vP (pb E1 0) 0)) <| c_ (ld_ 0 (hrd := by exact rd4 rfl)) <| c_ mv_ <| c_ (gm0 (rS ((y.natAbs : Int) - x.natAbs) ((sA (E5 4))) ((sC (E5 4))))) <| c_ (ln_ Try.underlying44 fun _ env _ wd hA => (Facts.rowN (hA.j.st.now).1 0 rfl).els) <| c_ (bi0 (vN ((digs ((y.natAbs : Int) - x.natAbs)).length)) (vI 0) (h := by intro env w; have h5 : digs ((y.natAbs : Int) - x.natAbs) = [] := (congrArg digs (show ((y.natAbs : Int) - x.natAbs) = 0 by omega)).trans digs_zero; simp [go_sem, h5])) <| c_ (pk0 bT bF bF (h := by intro env w; have h5 : digs ((y.natAbs : Int) - x.natAbs) = [] := (congrArg digs (show ((y.natAbs : Int) - x.natAbs) = 0 by omega)).trans digs_zero; simp [go_sem, h5])) <| c_ mv_ <| c_ (bd0 ([bF, rS ((y.natAbs : Int) - x.natAbs) ((sA (E5 4))) ((sC (E5 4)))])) <| c_ (se_ 2 (hst := by exact fun _ _ _ hc => st46 rfl rfl rfl hc)) <| e_) (k := fun E6 ac wd h_6 => ?_)
  clear h_5
  refine then_n (wp_ret ?_)
  refine lvC (v := .agg #[.bool false, .slice ((sA (E5 4))) ((digs ((y.natAbs : Int) - x.natAbs)).length) ((sC (E5 4)))]) Try.results22 h_6 2 (rd46 rfl rfl) ?_
  refine ⟨_, rfl, h_6.st.below, BigN.mk (decide_eq_false (by omega)).symm ?_ (Facts.rN h_6.st.now 0 rfl)⟩
  first | exact congrArg digs (by omega) | (rw [← digs_neg]; exact congrArg digs (by omega))
  refine rf_ h_5 [[0],[0,1],[0,1,2],r_ 4,r_ 5,r_ 6,r_ 7,[7],r_ 9,r_ 10] [K_ (vP (pb E1 0) 0), K_ bT, K_ bT, K_ (rS ((y.natAbs : Int) - x.natAbs) ((sA (E5 4))) ((sC (E5 4)))), K_ (vN ((digs ((y.natAbs : Int) - x.natAbs)).length)), K_ bT, K_ bT, K_ (rS ((y.natAbs : Int) - x.natAbs) ((sA (E5 4))) ((sC (E5 4)))), K_ (.agg #[bT, rS ((y.natAbs : Int) - x.natAbs) ((sA (E5 4))) ((sC (E5 4)))]), none] (fun E6 => [(4, vP (pb E1 2) 0)]) (S := [⟨2, 9, fun _ => [bT, rS ((y.natAbs : Int) - x.natAbs) ((sA (E5 4))) ((sC (E5 4)))]⟩]) (M' := fun E6 => [((pb E1 0), 46, [bT, rS y B0 k0]), ((pb E1 1), 46, [bF, rS x A0 c0]), ((pb E1 2), 46, [bT, rS ((y.natAbs : Int) - x.natAbs) ((sA (E5 4))) ((sC (E5 4)))])]) (hs := c_ (fa0 (vP (pb E1 0) 0)) <| c_ (ld_ 0 (hrd := by exact rd4 rfl)) <| c_ mv_ <| c_ (gm0 (rS ((y.natAbs : Int) - x.natAbs) ((sA (E5 4))) ((sC (E5 4))))) <| c_ (ln_ Try.underlying44 fun _ env _ wd hA => (Facts.rowN (hA.j.st.now).1 0 rfl).els) <| c_ (bi0 (vN ((digs ((y.natAbs : Int) - x.natAbs)).length)) (vI 0) (h := by intro env w; have h5 : digs ((y.natAbs : Int) - x.natAbs) ≠ [] := fun e => (show ¬ ((y.natAbs : Int) - x.natAbs) = 0 by omega) (digs_nil.1 (by rw [e]; rfl)); first | (simp [go_sem]; done) | (simp [go_sem]; exact List.length_pos_iff.2 h5))) <| c_ (pk0 bT bT bF (h := by intro env w; have h5 : digs ((y.natAbs : Int) - x.natAbs) ≠ [] := fun e => (show ¬ ((y.natAbs : Int) - x.natAbs) = 0 by omega) (digs_nil.1 (by rw [e]; rfl)); first | (simp [go_sem]; done) | (simp [go_sem]; exact List.length_pos_iff.2 h5))) <| c_ mv_ <| c_ (bd0 ([bT, rS ((y.natAbs : Int) - x.natAbs) ((sA (E5 4))) ((sC (E5 4)))])) <| c_ (se_ 2 (hst := by exact fun _ _ _ hc => st46 rfl rfl rfl hc)) <| e_) (k := fun E6 ac wd h_6 => ?_)
  clear h_5
  refine then_n (wp_ret ?_)
  refine lvC (v := .agg #[.bool true, .slice ((sA (E5 4))) ((digs ((y.natAbs : Int) - x.natAbs)).length) ((sC (E5 4)))]) Try.results22 h_6 2 (rd46 rfl rfl) ?_
  refine ⟨_, rfl, h_6.st.below, BigN.mk (decide_eq_true (by omega)).symm ?_ (Facts.rN h_6.st.now 0 rfl)⟩
  first | exact congrArg digs (by omega) | (rw [← digs_neg]; exact congrArg digs (by omega))
  refine rf_ h_2 [[0],[0,1],[2],[2,3],r_ 5,r_ 6] [K_ (vP (pb E1 0) 1), K_ (rS x A0 c0), K_ (vP (pb E1 1) 1), K_ (rS y B0 k0), K_ (vI (cmpZ x.natAbs y.natAbs)), K_ bF] (fun E3 => [(2, vP (pb E1 0) 0), (3, vP (pb E1 1) 0), (4, vP (pb E1 2) 0), (24, bF)]) (hs := c_ (fa0 (vP (pb E1 0) 0)) <| c_ (ld_ 0 (hrd := by exact rd44 rfl)) <| c_ (fa0 (vP (pb E1 1) 0)) <| c_ (ld_ 1 (hrd := by exact rd44 rfl)) <| c_ (cw_ Try.func46 (h := fun _ env _ wd hA => ⟨_, cmp_abs wd A0 B0 c0 k0 x y (hr.grown hA.j.st.gr) (hr2.grown hA.j.st.gr), rfl⟩)) <| c_ (bi0 (vI (cmpZ x.natAbs y.natAbs)) (vI 0) (h := by intro env w; simp [go_sem]; unfold cmpZ; split <;> (try split) <;> omega)) <| e_) (k := fun E3 ac wd h_3 => ?_)
  clear h_2
  refine then_n ?_
  refine cF_ h_3 ?_
  refine wp_skip (then_n (wp_seq ?_))
  refine rf_ h_3 [[0],[0,1],[2],[2,3],r_ 5,r_ 6] [K_ (vP (pb E1 0) 1), K_ (rS x A0 c0), K_ (vP (pb E1 1) 1), K_ (rS y B0 k0), KE_ fun env => rS ((x.natAbs : Int) - y.natAbs) ((sA (env 4))) ((sC (env 4))), KE_ fun env => rS ((x.natAbs : Int) - y.natAbs) ((sA (env 4))) ((sC (env 4)))] (fun E4 => [(2, vP (pb E1 0) 0), (4, vP (pb E1 2) 0), (5, rS ((x.natAbs : Int) - y.natAbs) ((sA (E4 4))) ((sC (E4 4))))]) (F := [(4, fun env w => RowN w0.heap.size w (env 4) (digs ((x.natAbs : Int) - y.natAbs)))]) (L1 := fun E4 => [fun w => RowN w0.heap.size w (E4 4) (digs ((x.natAbs : Int) - y.natAbs))]) (hs := c_ (fa0 (vP (pb E1 0) 0)) <| c_ (ld_ 0 (hrd := by exact rd44 rfl)) <| c_ (fa0 (vP (pb E1 1) 0)) <| c_ (ld_ 1 (hrd := by exact rd44 rfl)) <| c_ (cf_ Try.func47 (fun v w => RowN w0.heap.size w v (digs ((x.natAbs : Int) - y.natAbs))) (slF (digs ((x.natAbs : Int) - y.natAbs))) (h := fun _ env _ wd hA => ⟨_, upR hA.j.st.gr.size (sub_abs wd A0 B0 c0 k0 x y (hr.grown hA.j.st.gr) (hr2.grown hA.j.st.gr) (by omega) hx), rfl⟩)) <| c_ mv_ <| e_) (k := fun E4 ac wd h_4 => ?_)
  clear h_3
  refine then_n (wp_seq ?_)
  refine rf_ h_4 [[0],[0,1],[0,1,2],r_ 4,r_ 5,r_ 6,r_ 7,[7],r_ 9,r_ 10] [K_ (vP (pb E1 0) 0), K_ bF, K_ bF, K_ undef, K_ undef, K_ undef, K_ bF, K_ (rS ((x.natAbs : Int) - y.natAbs) ((sA (E4 4))) ((sC (E4 4)))), K_ (.agg #[bF, rS ((x.natAbs : Int) - y.natAbs) ((sA (E4 4))) ((sC (E4 4)))]), none] (fun E5 => [(4, vP (pb E1 2) 0)]) (S := [⟨2, 9, fun _ => [bF, rS ((x.natAbs : Int) - y.natAbs) ((sA (E4 4))) ((sC (E4 4)))]⟩]) (M' := fun E5 => [((pb E1 0), 46, [bF, rS x A0 c0]), ((pb E1 1), 46, [bT, rS y B0 k0]), ((pb E1 2), 46, [bF, rS ((x.natAbs : Int) - y.natAbs) ((sA (E4 4))) ((sC (E4 4)))])]) (hs := c_ (fa0 (vP (pb E1 0) 0)) <| c_ (ld_ 0 (hrd := by exact rd4 rfl)) <| c_ mv_ <| c_ off_ <| c_ off_ <| c_ off_ <| c_ (pk0 bF undef bF) <| c_ mv_ <| c_ (bd0 ([bF, rS ((x.natAbs : Int) - y.natAbs) ((sA (E4 4))) ((sC (E4 4)))])) <| c_ (se_ 2 (hst := by exact fun _ _ _ hc => st46 rfl rfl rfl hc)) <| e_) (k := fun E5 ac wd h_5 => ?_)
  clear h_4
  refine then_n (wp_ret ?_)
  refine lvC (v := .agg #[.bool false, .slice ((sA (E4 4))) ((digs ((x.natAbs : Int) - y.natAbs)).length) ((sC (E4 4)))]) Try.results22 h_5 2 (rd46 rfl rfl) ?_
  refine ⟨_, rfl, h_5.st.below, BigN.mk (decide_eq_false (by omega)).symm ?_ (Facts.rN h_5.st.now 0 rfl)⟩
  first | exact congrArg digs (by omega) | (rw [← digs_neg]; exact congrArg digs (by omega))
  have h1 : x < 0 := of_decide_eq_true hp.symm
  cases q
  have h2 : 0 ≤ y := by have := of_decide_eq_false hq.symm; omega
  refine rf_ h [[0],[1],[2]] [KE_ fun env => vP (pb env 0) 0, KE_ fun env => vP (pb env 1) 0, KE_ fun env => vP (pb env 2) 0] (fun E1 => [(2, vP (pb E1 0) 0), (3, vP (pb E1 1) 0), (4, vP (pb E1 2) 0)]) (W := [{ i := 0, T := 46, c0 := [bT, rS x A0 c0] }, { i := 1, T := 46, c0 := [bF, rS y B0 k0] }, { i := 2, T := 46, c0 := [bF, .slice none 0 0] }]) (M' := fun E1 => [((pb E1 0), 46, [bT, rS x A0 c0]), ((pb E1 1), 46, [bF, rS y B0 k0]), ((pb E1 2), 46, [bF, .slice none 0 0])]) (hs := c_ (bx0 0 (.agg #[bT, rS x A0 c0])) <| c_ (bx0 1 (.agg #[bF, rS y B0 k0])) <| c_ (al_ 2) <| e_) (k := fun E1 ac wd h_1 => ?_)
  clear h
  refine then_n (wp_seq (wp_seq ?_))
  refine rf_ h_1 [[0],[0,1],[2],[2,3],r_ 5] [K_ (vP (pb E1 0) 0), K_ bT, K_ (vP (pb E1 1) 0), K_ bF, K_ bF] (fun E2 => [(2, vP (pb E1 0) 0), (3, vP (pb E1 1) 0), (4, vP (pb E1 2) 0), (10, bF)]) (hs := c_ (fa0 (vP (pb E1 0) 0)) <| c_ (ld_ 0 (hrd := by exact rd4 rfl)) <| c_ (fa0 (vP (pb E1 1) 0)) <| c_ (ld_ 1 (hrd := by exact rd4 rfl)) <| c_ (bi0 bT bF) <| e_) (k := fun E2 ac wd h_2 => ?_)
  clear h_1
  refine then_n ?_
  refine cF_ h_2 ?_
  refine wp_skip (then_n (wp_seq (wp_seq ?_)))
  by_cases h3 : x.natAbs < y.natAbs
  refine rf_ h_2 [[0],[0,1],[2],[2,3],r_ 5,r_ 6] [K_ (vP (pb E1 0) 1), K_ (rS x A0 c0), K_ (vP (pb E1 1) 1), K_ (rS y B0 k0), K_ (vI (cmpZ x.natAbs y.natAbs)), K_ bT] (fun E3 => [(2, vP (pb E1 0) 0), (3, vP (pb E1 1) 0), (4, vP (pb E1 2) 0), (24, bT)]) (hs := c_ (fa0 (vP (pb E1 0) 0)) <| c_ (ld_ 0 (hrd := by exact rd44 rfl)) <| c_ (fa0 (vP (pb E1 1) 0)) <| c_ (ld_ 1 (hrd := by exact rd44 rfl)) <| c_ (cw_ Try.func46 (h := fun _ env _ wd hA => ⟨_, cmp_abs wd A0 B0 c0 k0 x y (hr.grown hA.j.st.gr) (hr2.grown hA.j.st.gr), rfl⟩)) <| c_ (bi0 (vI (cmpZ x.natAbs y.natAbs)) (vI 0) (h := by intro env w; simp [go_sem]; unfold cmpZ; split <;> (try split) <;> omega)) <| e_) (k := fun E3 ac wd h_3 => ?_)
  clear h_2
  refine then_n ?_
  refine cT_ h_3 ?_
  refine rf_ h_3 [[0],[1],[0,1,2],r_ 4] [K_ (.agg #[bF, rS y B0 k0]), K_ (.agg #[bT, rS x A0 c0]), none, none] (fun E4 => [(2, vP (pb E1 0) 0), (3, vP (pb E1 1) 0), (4, vP (pb E1 2) 0)]) (S := [⟨0, 2, fun _ => [bF, rS y B0 k0]⟩, ⟨1, 3, fun _ => [bT, rS x A0 c0]⟩]) (M' := fun E4 => [((pb E1 0), 46, [bF, rS y B0 k0]), ((pb E1 1), 46, [bT, rS x A0 c0]), ((pb E1 2), 46, [bF, .slice none 0 0])]) (hs := c_ (ld_ 1 (hrd := by exact rd46 rfl rfl)) <| c_ (ld_ 0 (hrd := by exact rd46 rfl rfl)) <| c_ (se_ 0 (hst := by exact fun _ _ _ hc => st46 rfl rfl rfl hc)) <| c_ (se_ 1 (hst := by exact fun _ _ _ hc => st46 rfl rfl rfl hc)) <| e_) (k := fun E4 ac wd h_4 => ?_)
  clear h_3
  refine then_n (wp_seq ?_)
  refine rf_ h_4 [[0],[0,1],[2],[2,3],r_ 5,r_ 6] [K_ (vP (pb E1 0) 1), K_ (rS y B0 k0), K_ (vP (pb E1 1) 1), K_ (rS x A0 c0), KE_ fun env => rS ((y.natAbs : Int) - x.natAbs) ((sA (env 4))) ((sC (env 4))), KE_ fun env => rS ((y.natAbs : Int) - x.natAbs) ((sA (env 4))) ((sC (env 4)))] (fun E5 => [(2, vP (pb E1 0) 0), (4, vP (pb E1 2) 0), (5, rS ((y.natAbs : Int) - x.natAbs) ((sA (E5 4))) ((sC (E5 4))))]) (F := [(4, fun env w => RowN w0.heap.size w (env 4) (digs ((y.natAbs : Int) - x.natAbs)))]) (L1 := fun E5 => [fun w => RowN w0.heap.size w (E5 4) (digs ((y.natAbs : Int) - x.natAbs))]) (hs := c_ (fa0 (vP (pb E1 0) 0)) <| c_ (ld_ 0 (hrd := by exact rd44 rfl)) <| c_ (fa0 (vP (pb E1 1) 0)) <| c_ (ld_ 1 (hrd := by exact rd44 rfl)) <| c_ (cf_ Try.func47 (fun v w => RowN w0.heap.size w v (digs ((y.natAbs : Int) - x.natAbs))) (slF (digs ((y.natAbs : Int) - x.natAbs))) (h := fun _ env _ wd hA => ⟨_, upR hA.j.st.gr.size (sub_abs wd B0 A0 k0 c0 y x (hr2.grown hA.j.st.gr) (hr.grown hA.j.st.gr) (by omega) hy), rfl⟩)) <| c_ mv_ <| e_) (k := fun E5 ac wd h_5 => ?_)
  clear h_4
  refine then_n (wp_seq ?_)
  refine rf_ h_5 [[0],[0,1],[0,1,2],r_ 4,r_ 5,r_ 6,r_ 7,[7],r_ 9,r_ 10] [K_ (vP (pb E1 0) 0), K_ bF, K_ bF, K_ undef, K_ undef, K_ undef, K_ bF, K_ (rS ((y.natAbs : Int) - x.natAbs) ((sA (E5 4))) ((sC (E5 4)))), K_ (.agg #[bF, rS ((y.natAbs : Int) - x.natAbs) ((sA (E5 4))) ((sC (E5 4)))]), none] (fun E6 => [(4, vP (pb E1 2) 0)]) (S := [⟨2, 9, fun _ => [bF, rS ((y.natAbs : Int) - x.natAbs) ((sA (E5 4))) ((sC (E5 4)))]⟩]) (M' := fun E6 => [((pb E1 0), 46, [bF, rS y B0 k0]), ((pb E1 1), 46, [bT, rS x A0 c0]), ((pb E1 2), 46, [bF, rS ((y.natAbs : Int) - x.natAbs) ((sA (E5 4))) ((sC (E5 4)))])]) (hs := c_ (fa0 (vP (pb E1 0) 0)) <| c_ (ld_ 0 (hrd := by exact rd4 rfl)) <| c_ mv_ <| c_ off_ <| c_ off_ <| c_ off_ <| c_ (pk0 bF undef bF) <| c_ mv_ <| c_ (bd0 ([bF, rS ((y.natAbs : Int) - x.natAbs) ((sA (E5 4))) ((sC (E5 4)))])) <| c_ (se_ 2 (hst := by exact fun _ _ _ hc => st46 rfl rfl rfl hc)) <| e_) (k := fun E6 ac wd h_6 => ?_)
  clear h_5
  refine then_n (wp_ret ?_)
  refine lvC (v := .agg #[.bool false, .slice ((sA (E5 4))) ((digs ((y.natAbs : Int) - x.natAbs)).length) ((sC (E5 4)))]) Try.results22 h_6 2 (rd46 rfl rfl) ?_
  refine ⟨_, rfl, h_6.st.below, BigN.mk (decide_eq_false (by omega)).symm ?_ (Facts.rN h_6.st.now 0 rfl)⟩
  first | exact congrArg digs (by omega) | (rw [← digs_neg]; exact congrArg digs (by omega))
  refine rf_ h_2 [[0],[0,1],[2],[2,3],r_ 5,r_ 6] [K_ (vP (pb E1 0) 1), K_ (rS x A0 c0), K_ (vP (pb E1 1) 1), K_ (rS y B0 k0), K_ (vI (cmpZ x.natAbs y.natAbs)), K_ bF] (fun E3 => [(2, vP (pb E1 0) 0), (3, vP (pb E1 1) 0), (4, vP (pb E1 2) 0), (24, bF)]) (hs := c_ (fa0 (vP (pb E1 0) 0)) <| c_ (ld_ 0 (hrd := by exact rd44 rfl)) <| c_ (fa0 (vP (pb E1 1) 0)) <| c_ (ld_ 1 (hrd := by exact rd44 rfl)) <| c_ (cw_ Try.func46 (h := fun _ env _ wd hA => ⟨_, cmp_abs wd A0 B0 c0 k0 x y (hr.grown hA.j.st.gr) (hr2.grown hA.j.st.gr), rfl⟩)) <| c_ (bi0 (vI (cmpZ x.natAbs y.natAbs)) (vI 0) (h := by intro env w; simp [go_sem]; unfold cmpZ; split <;> (try split) <;> omega)) <| e_) (k := fun E3 ac wd h_3 => ?_)
  clear h_2
  refine then_n ?_
  refine cF_ h_3 ?_
  refine wp_skip (then_n (wp_seq ?_))
  refine rf_ h_3 [[0],[0,1],[2],[2,3],r_ 5,r_ 6] [K_ (vP (pb E1 0) 1), K_ (rS x A0 c0), K_ (vP (pb E1 1) 1), K_ (rS y B0 k0), KE_ fun env => rS ((x.natAbs : Int) - y.natAbs) ((sA (env 4))) ((sC (env 4))), KE_ fun env => rS ((x.natAbs : Int) - y.natAbs) ((sA (env 4))) ((sC (env 4)))] (fun E4 => [(2, vP (pb E1 0) 0), (4, vP (pb E1 2) 0), (5, rS ((x.natAbs : Int) - y.natAbs) ((sA (E4 4))) ((sC (E4 4))))]) (F := [(4, fun env w => RowN w0.heap.size w (env 4) (digs ((x.natAbs : Int) - y.natAbs)))]) (L1 := fun E4 => [fun w => RowN w0.heap.size w (E4 4) (digs ((x.natAbs : Int) - y.natAbs))]) (hs := c_ (fa0 (vP (pb E1 0) 0)) <| c_ (ld_ 0 (hrd := by exact rd44 rfl)) <| c_ (fa0 (vP (pb E1 1) 0)) <| c_ (ld_ 1 (hrd := by exact rd44 rfl)) <| c_ (cf_ Try.func47 (fun v w => RowN w0.heap.size w v (digs ((x.natAbs : Int) - y.natAbs))) (slF (digs ((x.natAbs : Int) - y.natAbs))) (h := fun _ env _ wd hA => ⟨_, upR hA.j.st.gr.size (sub_abs wd A0 B0 c0 k0 x y (hr.grown hA.j.st.gr) (hr2.grown hA.j.st.gr) (by omega) hx), rfl⟩)) <| c_ mv_ <| e_) (k := fun E4 ac wd h_4 => ?_)
  clear h_3
  refine then_n (wp_seq ?_)
  by_cases h4 : x.natAbs = y.natAbs
  refine rf_ h_4 [[0],[0,1],[0,1,2],r_ 4,r_ 5,r_ 6,r_ 7,[7],r_ 9,r_ 10] [K_ (vP (pb E1 0) 0), K_ bT, K_ bT, K_ (rS ((x.natAbs : Int) - y.natAbs) ((sA (E4 4))) ((sC (E4 4)))), K_ (vN ((digs ((x.natAbs : Int) - y.natAbs)).length)), K_ bF, K_ bF, K_ (rS ((x.natAbs : Int) - y.natAbs) ((sA (E4 4))) ((sC (E4 4)))), K_ (.agg #[bF, rS ((x.natAbs : Int) - y.natAbs) ((sA (E4 4))) ((sC (E4 4)))]), none] (fun E5 => [(4, vP (pb E1 2) 0)]) (S := [⟨2, 9, fun _ => [bF, rS ((x.natAbs : Int) - y.natAbs) ((sA (E4 4))) ((sC (E4 4)))]⟩]) (M' := fun E5 => [((pb E1 0), 46, [bT, rS x A0 c0]), ((pb E1 1), 46, [bF, rS y B0 k0]), ((pb E1 2), 46, [bF, rS ((x.natAbs : Int) - y.natAbs) ((sA (E4 4))) ((sC (E4 4)))])]) (hs := c_ (fa0 (vP (pb E1 0) 0)) <| c_ (ld_ 0 (hrd := by exact rd4 rfl)) <| c_ mv_ <| c_ (gm0 (rS ((x.natAbs : Int) - y.natAbs) ((sA (E4 4))) ((sC (E4 4))))) <| c_ (ln_ Try.underlying44 fun _ env _ wd hA => (Facts.rowN (hA.j.st.now).1 0 rfl).els) <| c_ (bi0 (vN ((digs ((x.natAbs : Int) - y.natAbs)).length)) (vI 0) (h := by intro env w; have h5 : digs ((x.natAbs : Int) - y.natAbs) = [] := (congrArg digs (show ((x.natAbs : Int) - y.natAbs) = 0 by omega)).trans digs_zero; simp [go_sem, h5])) <| c_ (pk0 bT bF bF (h := by intro env w; have h5 : digs ((x.natAbs : Int) - y.natAbs) = [] := (congrArg digs (show ((x.natAbs : Int) - y.natAbs) = 0 by omega)).trans digs_zero; simp [go_sem, h5])) <| c_ mv_ <| c_ (bd0 ([bF, rS ((x.natAbs : Int) - y.natAbs) ((sA (E4 4))) ((sC (E4 4)))])) <| c_ (se_ 2 (hst := by exact fun _ _ _ hc => st46 rfl rfl rfl hc)) <| e_) (k := fun E5 ac wd h_5 => ?_)
  clear h_4
  refine then_n (wp_ret ?_)
  refine lvC (v := .agg #[.bool false, .slice ((sA (E4 4))) ((digs ((x.natAbs : Int) - y.natAbs)).length) ((sC (E4 4)))]) Try.results22 h_5 2 (rd46 rfl rfl) ?_
  refine ⟨_, rfl, h_5.st.below, BigN.mk (decide_eq_false (by omega)).symm ?_ (Facts.rN h_5.st.now 0 rfl)⟩
  first | exact congrArg digs (by omega) | (rw [← digs_neg]; exact congrArg digs (by omega))
  refine rf_ h_4 [[0],[0,1],[0,1,2],r_ 4,r_ 5,r_ 6,r_ 7,[7],r_ 9,r_ 10] [K_ (vP (pb E1 0) 0), K_ bT, K_ bT, K_ (rS ((x.natAbs : Int) - y.natAbs) ((sA (E4 4))) ((sC (E4 4)))), K_ (vN ((digs ((x.natAbs : Int) - y.natAbs)).length)), K_ bT, K_ bT, K_ (rS ((x.natAbs : Int) - y.natAbs) ((sA (E4 4))) ((sC (E4 4)))), K_ (.agg #[bT, rS ((x.natAbs : Int) - y.natAbs) ((sA (E4 4))) ((sC (E4 4)))]), none] (fun E5 => [(4, vP (pb E1 2) 0)]) (S := [⟨2, 9, fun _ => [bT, rS ((x.natAbs : Int) - y.natAbs) ((sA (E4 4))) ((sC (E4 4)))]⟩]) (M' := fun E5 => [((pb E1 0), 46, [bT, rS x A0 c0]), ((pb E1 1), 46, [bF, rS y B0 k0]), ((pb E1 2), 46, [bT, rS ((x.natAbs : Int) - y.natAbs) ((sA (E4 4))) ((sC (E4 4)))])]) (hs := c_ (fa0 (vP (pb E1 0) 0)) <| c_ (ld_ 0 (hrd := by exact rd4 rfl)) <| c_ mv_ <| c_ (gm0 (rS ((x.natAbs : Int) - y.natAbs) ((sA (E4 4))) ((sC (E4 4))))) <| c_ (ln_ Try.underlying44 fun _ env _ wd hA => (Facts.rowN (hA.j.st.now).1 0 rfl).els) <| c_ (bi0 (vN ((digs ((x.natAbs : Int) - y.natAbs)).length)) (vI 0) (h := by intro env w; have h5 : digs ((x.natAbs : Int) - y.natAbs) ≠ [] := fun e => (show ¬ ((x.natAbs : Int) - y.natAbs) = 0 by omega) (digs_nil.1 (by rw [e]; rfl)); first | (simp [go_sem]; done) | (simp [go_sem]; exact List.length_pos_iff.2 h5))) <| c_ (pk0 bT bT bF (h := by intro env w; have h5 : digs ((x.natAbs : Int) - y.natAbs) ≠ [] := fun e => (show ¬ ((x.natAbs : Int) - y.natAbs) = 0 by omega) (digs_nil.1 (by rw [e]; rfl)); first | (simp [go_sem]; done) | (simp [go_sem]; exact List.length_pos_iff.2 h5))) <| c_ mv_ <| c_ (bd0 ([bT, rS ((x.natAbs : Int) - y.natAbs) ((sA (E4 4))) ((sC (E4 4)))])) <| c_ (se_ 2 (hst := by exact fun _ _ _ hc => st46 rfl rfl rfl hc)) <| e_) (k := fun E5 ac wd h_5 => ?_)
  clear h_4
  refine then_n (wp_ret ?_)
  refine lvC (v := .agg #[.bool true, .slice ((sA (E4 4))) ((digs ((x.natAbs : Int) - y.natAbs)).length) ((sC (E4 4)))]) Try.results22 h_5 2 (rd46 rfl rfl) ?_
  refine ⟨_, rfl, h_5.st.below, BigN.mk (decide_eq_true (by omega)).symm ?_ (Facts.rN h_5.st.now 0 rfl)⟩
  first | exact congrArg digs (by omega) | (rw [← digs_neg]; exact congrArg digs (by omega))
  have h2 : y < 0 := of_decide_eq_true hq.symm
  refine rf_ h [[0],[1],[2]] [KE_ fun env => vP (pb env 0) 0, KE_ fun env => vP (pb env 1) 0, KE_ fun env => vP (pb env 2) 0] (fun E1 => [(2, vP (pb E1 0) 0), (3, vP (pb E1 1) 0), (4, vP (pb E1 2) 0)]) (W := [{ i := 0, T := 46, c0 := [bT, rS x A0 c0] }, { i := 1, T := 46, c0 := [bT, rS y B0 k0] }, { i := 2, T := 46, c0 := [bF, .slice none 0 0] }]) (M' := fun E1 => [((pb E1 0), 46, [bT, rS x A0 c0]), ((pb E1 1), 46, [bT, rS y B0 k0]), ((pb E1 2), 46, [bF, .slice none 0 0])]) (hs := c_ (bx0 0 (.agg #[bT, rS x A0 c0])) <| c_ (bx0 1 (.agg #[bT, rS y B0 k0])) <| c_ (al_ 2) <| e_) (k := fun E1 ac wd h_1 => ?_)
  clear h
  refine then_n (wp_seq (wp_seq ?_))
  refine rf_ h_1 [[0],[0,1],[2],[2,3],r_ 5] [K_ (vP (pb E1 0) 0), K_ bT, K_ (vP (pb E1 1) 0), K_ bT, K_ bT] (fun E2 => [(2, vP (pb E1 0) 0), (3, vP (pb E1 1) 0), (4, vP (pb E1 2) 0), (10, bT)]) (hs := c_ (fa0 (vP (pb E1 0) 0)) <| c_ (ld_ 0 (hrd := by exact rd4 rfl)) <| c_ (fa0 (vP (pb E1 1) 0)) <| c_ (ld_ 1 (hrd := by exact rd4 rfl)) <| c_ (bi0 bT bT) <| e_) (k := fun E2 ac wd h_2 => ?_)
  clear h_1
  refine then_n ?_
  refine cT_ h_2 ?_
  refine wp_seq ?_
  refine rf_ h_2 [[0],[0,1],[2],[2,3],[4],[4,5],[2,3,4,5,6],r_ 8,r_ 9] [K_ (vP (pb E1 0) 0), K_ bT, K_ (vP (pb E1 0) 1), K_ (rS x A0 c0), K_ (vP (pb E1 1) 1), K_ (rS y B0 k0), KE_ fun env => rS ((x.natAbs : Int) + y.natAbs) ((sA (env 6))) ((sC (env 6))), KE_ fun env => .agg #[bT, rS ((x.natAbs : Int) + y.natAbs) ((sA (env 6))) ((sC (env 6)))], none] (fun E3 => [(2, vP (pb E1 0) 0), (3, vP (pb E1 1) 0), (4, vP (pb E1 2) 0)]) (S := [⟨2, 8, fun env => [bT, rS ((x.natAbs : Int) + y.natAbs) ((sA (env 6))) ((sC (env 6)))]⟩]) (F := [(6, fun env w => RowN w0.heap.size w (env 6) (digs ((x.natAbs : Int) + y.natAbs)))]) (L1 := fun E3 => [fun w => RowN w0.heap.size w (E3 6) (digs ((x.natAbs : Int) + y.natAbs))]) (M' := fun E3 => [((pb E1 0), 46, [bT, rS x A0 c0]), ((pb E1 1), 46, [bT, rS y B0 k0]), ((pb E1 2), 46, [bT, rS ((x.natAbs : Int) + y.natAbs) ((sA (E3 6))) ((sC (E3 6)))])]) (hs := c_ (fa0 (vP (pb E1 0) 0)) <| c_ (ld_ 0 (hrd := by exact rd4 rfl)) <| c_ (fa0 (vP (pb E1 0) 0)) <| c_ (ld_ 0 (hrd := by exact rd44 rfl)) <| c_ (fa0 (vP (pb E1 1) 0)) <| c_ (ld_ 1 (hrd := by exact rd44 rfl)) <| c_ (cf_ Try.func45 (fun v w => RowN w0.heap.size w v (digs ((x.natAbs : Int) + y.natAbs))) (slF (digs ((x.natAbs : Int) + y.natAbs))) (h := fun _ env _ wd hA => ⟨_, upR hA.j.st.gr.size (add_abs wd A0 B0 c0 k0 x y (hr.grown hA.j.st.gr) (hr2.grown hA.j.st.gr) hx hy), rfl⟩)) <| c_ (bd_ (fun env => [bT, rS ((x.natAbs : Int) + y.natAbs) ((sA (env 6))) ((sC (env 6)))])) <| c_ (se_ 2 (hst := by exact fun _ _ _ hc => st46 rfl rfl rfl hc)) <| e_) (k := fun E3 ac wd h_3 => ?_)
  clear h_2
  refine then_n (wp_ret (then_ret ?_))
  refine lvC (v := .agg #[.bool true, .slice ((sA (E3 6))) ((digs ((x.natAbs : Int) + y.natAbs)).length) ((sC (E3 6)))]) Try.results22 h_3 2 (rd46 rfl rfl) ?_
  refine ⟨_, rfl, h_3.st.below, BigN.mk (decide_eq_true (by omega)).symm ?_ (Facts.rN h_3.st.now 0 rfl)⟩
  first | exact congrArg digs (by omega) | (rw [← digs_neg]; exact congrArg digs (by omega))
theorem Sm.neg {z : Int} (h : Sm z) : Sm (-z) := by unfold Sm at *; omega
set_option maxRecDepth 100000 in
set_option maxHeartbeats 8000000 in
theorem Sub_any (w0 : World) (p : Bool) (A0 : Option Addr) (c0 : Nat) (x : Int) (hp : p = decide (x < 0)) (hr : Row w0 (.slice A0 (digs x).length c0) (digs x)) (hx : Sm x) (q : Bool) (B0 : Option Addr) (k0 : Nat) (y : Int) (hq : q = decide (y < 0)) (hr2 : Row w0 (.slice B0 (digs y).length k0) (digs y)) (hy : Sm y) : Calls Try.prog 51 #[.agg #[.bool (p), .slice A0 ((digs x).length) c0], .agg #[.bool (q), .slice B0 ((digs y).length) k0]] w0 fun e w' => ∃ v, e = .returned v ∧ Below w0.heap.size w0 w' ∧ BigN w0.heap.size w' v (x - y) := by
  have hst := St.start w0 (Θ := fun _ => True) (fun _ _ => trivial)
  refine en_ Try.func51 hst 9 [(0, .agg #[.bool (p), .slice A0 ((digs x).length) c0]), (1, .agg #[.bool (q), .slice B0 ((digs y).length) k0])] (fun ac h => ?_)
  replace h := h.facts
  refine wp_seq ?_
  refine rf_ h [[0],[1],[2]] [KE_ fun env => vP (pb env 0) 0, KE_ fun env => vP (pb env 1) 0, KE_ fun env => vP (pb env 2) 0] (fun E1 => [(2, vP (pb E1 0) 0), (3, vP (pb E1 1) 0), (4, vP (pb E1 2) 0)]) (W := [{ i := 0, T := 46, c0 := [.bool (p), rS x A0 c0] }, { i := 1, T := 46, c0 := [.bool (q), rS y B0 k0] }, { i := 2, T := 46, c0 := [bF, .slice none 0 0] }]) (M' := fun E1 => [((pb E1 0), 46, [.bool (p), rS x A0 c0]), ((pb E1 1), 46, [.bool (q), rS y B0 k0]), ((pb E1 2), 46, [bF, .slice none 0 0])]) (hs := c_ (bx0 0 (.agg #[.bool (p), rS x A0 c0])) <| c_ (bx0 1 (.agg #[.bool (q), rS y B0 k0])) <| c_ (al_ 2) <| e_) (k := fun E1 ac wd h_1 => ?_)
  clear h
  refine then_n (wp_seq ?_)
  refine rf_ h_1 [[0],[1],[1,2],r_ 4,r_ 5] [K_ (.agg #[.bool (p), rS x A0 c0]), K_ (.agg #[.bool (q), rS y B0 k0]), K_ (.agg #[.bool (decide (-y < 0)), rS (-y) B0 k0]), KE_ fun env => bigF (x + -y) (env 3), none] (fun E2 => [(4, vP (pb E1 2) 0)]) (S := [⟨2, 4, fun env => [.bool (decide (x + -y < 0)), rS (x + -y) ((bA (env 3))) ((bC (env 3)))]⟩]) (F := [(3, fun env w => BigN w0.heap.size w (env 3) (x + -y))]) (L1 := fun E2 => [fun w => BigN w0.heap.size w (E2 3) (x + -y)]) (M' := fun E2 => [((pb E1 0), 46, [.bool (p), rS x A0 c0]), ((pb E1 1), 46, [.bool (q), rS y B0 k0]), ((pb E1 2), 46, [.bool (decide (x + -y < 0)), rS (x + -y) ((bA (E2 3))) ((bC (E2 3)))])]) (hs := c_ (ld_ 0 (hrd := by exact rd46 rfl rfl)) <| c_ (ld_ 1 (hrd := by exact rd46 rfl rfl)) <| c_ (cw_ Try.func48 (h := fun _ env _ wd hA => ⟨_, Neg_any wd q B0 k0 y hq (hr2.grown hA.j.st.gr), rfl⟩)) <| c_ (cb_ Try.func22 (x + -y) (h := fun _ env _ wd hA => ⟨_, Add_any wd p A0 c0 x hp (hr.grown hA.j.st.gr) hx (decide (-y < 0)) B0 k0 (-y) rfl (Row.neg (hr2.grown hA.j.st.gr)) hy.neg, rfl⟩)) <| c_ (se_ 2 (hst := by exact fun _ _ _ hc => st46 rfl rfl rfl hc)) <| e_) (k := fun E2 ac wd h_2 => ?_)
  clear h_1
  refine then_n (wp_ret ?_)
  refine lvC (v := bigF (x + -y) (E2 3)) Try.results51 h_2 2 (rd46 rfl rfl) ?_
  refine ⟨_, rfl, h_2.st.below, BigN.mk ?_ ?_ (Facts.bN h_2.st.now 0 rfl)⟩
  · rw [Int.sub_eq_add_neg]
  · rw [Int.sub_eq_add_neg]
set_option maxRecDepth 100000 in
set_option maxHeartbeats 8000000 in
theorem Int_any (w0 : World) (n : Int) (h0 : -9223372036854775808 ≤ n) (h1 : n < 9223372036854775808) : Calls Try.prog 24 #[vI n] w0 fun e w' => ∃ v, e = .returned v ∧ Below w0.heap.size w0 w' ∧ BigN w0.heap.size w' v (n) := by
  have hst := St.start w0 (Θ := fun _ => True) (fun _ _ => trivial)
  refine en_ Try.func24 hst 18 [(0, vI n)] (fun ac h => ?_)
  replace h := h.facts
  refine wp_seq ?_
  refine rf_ h [[0]] [KE_ fun env => vP (pb env 0) 0] (fun E1 => [(0, vI n), (2, vP (pb E1 0) 0)]) (W := [{ i := 0, T := 46, c0 := [bF, .slice none 0 0] }]) (M' := fun E1 => [((pb E1 0), 46, [bF, .slice none 0 0])]) (hs := c_ (al_ 0) <| e_) (k := fun E1 ac wd h_1 => ?_)
  clear h
  refine then_n (wp_seq (wp_seq ?_))
  by_cases h2 : 0 ≤ n
  refine rf_ h_1 [[0],[0,1]] [K_ (vI n), K_ bT] (fun E2 => [(0, vI n), (2, vP (pb E1 0) 0), (5, bT)]) (hs := c_ mv_ <| c_ (bi0 (vI n) (vI 0)) <| e_) (k := fun E2 ac wd h_2 => ?_)
  clear h_1
  refine then_n ?_
  refine cT_ h_2 ?_
  refine wp_seq ?_
  refine rf_ h_2 (tri 4) [K_ (vI n), K_ (.int .u64 n), KE_ fun env => bigF n (env 2), none] (fun E3 => [(0, vI n), (2, vP (pb E1 0) 0)]) (S := [⟨0, 3, fun env => [.bool (decide (n < 0)), rS n ((bA (env 2))) ((bC (env 2)))]⟩]) (F := [(2, fun env w => BigN w0.heap.size w (env 2) n)]) (L1 := fun E3 => [fun w => BigN w0.heap.size w (E3 2) n]) (M' := fun E3 => [((pb E1 0), 46, [.bool (decide (n < 0)), rS n ((bA (E3 2))) ((bC (E3 2)))])]) (hs := c_ mv_ <| c_ (cv0 (vI n) (h := by intro env w; simp [go_sem]; first | done | exact IntWalk.u64_in _ (by omega) (by omega) | exact IntWalk.u64_in _ (by omega))) <| c_ (cb_ Try.func36 n (h := fun _ env _ wd hA => ⟨_, Word_any wd n (by omega) (by omega), rfl⟩)) <| c_ (se_ 0 (hst := by exact fun _ _ _ hc => st46 rfl rfl rfl hc)) <| e_) (k := fun E3 ac wd h_3 => ?_)
  clear h_2
  refine then_n (wp_ret (then_ret ?_))
  refine lvC (v := bigF n (E3 2)) Try.results24 h_3 0 (rd46 rfl rfl) ?_
  exact ⟨_, rfl, h_3.st.below, BigN.mk rfl rfl (Facts.bN h_3.st.now 0 rfl)⟩
  refine rf_ h_1 [[0],[0,1]] [K_ (vI n), K_ bF] (fun E2 => [(0, vI n), (2, vP (pb E1 0) 0), (5, bF)]) (hs := c_ mv_ <| c_ (bi0 (vI n) (vI 0)) <| e_) (k := fun E2 ac wd h_2 => ?_)
  clear h_1
  refine then_n ?_
  refine cF_ h_2 ?_
  refine wp_skip (then_n (wp_seq ?_))
  refine rf_ h_2 [[0],[0,1],[0,1,2],r_ 4,r_ 5,[5],r_ 7] [K_ (vI n), K_ (vI (n + 1)), K_ (vI (-n - 1)), K_ (.int .u64 (-n - 1)), KE_ fun env => bigF (-n - 1) (env 4), KE_ fun env => vP (pb env 5) 0, none] (fun E3 => [(2, vP (pb E1 0) 0), (3, vP (pb E3 5) 0)]) (W := [{ i := 5, T := 46, c0 := [bF, .slice none 0 0], s := some 6, c1 := fun env => [.bool (decide (-n - 1 < 0)), rS (-n - 1) ((bA (env 4))) ((bC (env 4)))] }]) (F := [(4, fun env w => BigN w0.heap.size w (env 4) (-n - 1))]) (L1 := fun E3 => [fun w => BigN w0.heap.size w (E3 4) (-n - 1)]) (M' := fun E3 => [((pb E1 0), 46, [bF, .slice none 0 0]), ((pb E3 5), 46, [.bool (decide (-n - 1 < 0)), rS (-n - 1) ((bA (E3 4))) ((bC (E3 4)))])]) (hs := c_ mv_ <| c_ (bi0 (vI n) (vI 1)) <| c_ (un0 (vI (n + 1)) (h := by intro env w; simp [go_sem]; rw [show (-(n + 1)) = -n - 1 by omega]; exact IntWalk.i64_in _ (by omega))) <| c_ (cv0 (vI (-n - 1)) (h := by intro env w; simp [go_sem]; first | done | exact IntWalk.u64_in _ (by omega) (by omega) | exact IntWalk.u64_in _ (by omega))) <| c_ (cb_ Try.func36 (-n - 1) (h := fun _ env _ wd hA => ⟨_, Word_any wd (-n - 1) (by omega) (by omega), rfl⟩)) <| c_ (al_ 1) <| c_ (sw_ 1 5 (hst := by exact fun _ _ _ hc => st46 rfl rfl rfl hc)) <| e_) (k := fun E3 ac wd h_3 => ?_)
  clear h_2
  refine then_n (wp_seq ?_)
  refine rf_ h_3 [[0],[1],[0,1,2],r_ 4,r_ 5] [K_ (bigF (-n - 1) (E3 4)), KE_ fun env => bigF 1 (env 1), KE_ fun env => bigF (-n - 1 + 1) (env 2), KE_ fun env => bigF (-(-n - 1 + 1)) (env 2), none] (fun E4 => [(2, vP (pb E1 0) 0)]) (S := [⟨0, 4, fun env => [.bool (decide (-(-n - 1 + 1) < 0)), rS (-(-n - 1 + 1)) ((bA (env 2))) ((bC (env 2)))]⟩]) (F := [(1, fun env w => BigN w0.heap.size w (env 1) 1), (2, fun env w => BigN w0.heap.size w (env 2) (-n - 1 + 1))]) (L1 := fun E4 => [fun w => BigN w0.heap.size w (E3 4) (-n - 1), fun w => BigN w0.heap.size w (E4 1) 1, fun w => BigN w0.heap.size w (E4 2) (-n - 1 + 1)]) (M' := fun E4 => [((pb E1 0), 46, [.bool (decide (-(-n - 1 + 1) < 0)), rS (-(-n - 1 + 1)) ((bA (E4 2))) ((bC (E4 2)))]), ((pb E3 5), 46, [.bool (decide (-n - 1 < 0)), rS (-n - 1) ((bA (E3 4))) ((bC (E3 4)))])]) (hs := c_ (ld_ 1 (hrd := by exact rd46 rfl rfl)) <| c_ (cb_ Try.func36 1 (h := fun _ env _ wd hA => ⟨_, Word_any wd 1 (by omega) (by omega), rfl⟩)) <| c_ (cb_ Try.func22 (-n - 1 + 1) (h := fun _ env _ wd hA => ⟨_, Add_any wd (decide (-n - 1 < 0)) (bA (E3 4)) (bC (E3 4)) (-n - 1) rfl (Facts.bigN (hA.j.st.now).1 0 rfl) (by unfold Sm; omega) (decide (1 < 0)) (bA (env 1)) (bC (env 1)) 1 rfl (At.bigN hA 1 rfl rfl rfl) (by unfold Sm; omega), rfl⟩)) <| c_ (cw_ Try.func48 (h := fun _ env _ wd hA => ⟨_, Neg_any wd _ (bA (env 2)) (bC (env 2)) (-n - 1 + 1) rfl (At.bigN hA 2 rfl rfl rfl), rfl⟩)) <| c_ (se_ 0 (hst := by exact fun _ _ _ hc => st46 rfl rfl rfl hc)) <| e_) (k := fun E4 ac wd h_4 => ?_)
  clear h_3
  refine then_n (wp_ret ?_)
  refine lvC (v := bigF (-(-n - 1 + 1)) (E4 2)) Try.results24 h_4 0 (rd46 rfl rfl) ?_
  exact ⟨_, rfl, h_4.st.below, BigN.mk (by rw [show -(-n - 1 + 1) = n by omega]) (by rw [show -(-n - 1 + 1) = n by omega]) (RowN.neg (Facts.bN h_4.st.now 2 rfl))⟩
end Go.Proofs.Ytdfkghpgekmmlaa

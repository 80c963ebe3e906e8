/- wide.Mul (printed by my walk.py) -/
import Derived.Test.YtdfkghpgekmmlaaL4
import Derived.Test.YtdfkghpgekmmlaaC11
import Derived.Test.YtdfkghpgekmmlaaM0
import Derived.Test.YtdfkghpgekmmlaaM1
import Derived.IntWalk
namespace Go.Proofs.Ytdfkghpgekmmlaa
open Go.RowKit
set_option linter.unusedVariables false
set_option linter.unusedSimpArgs false
attribute [local go_sem] vN bT bF vW vM vL vT2 vT3 vP vI execOp Act.eval evC hi_zero lo_zero Try.underlying39 Try.underlying96

theorem hi_neg {z : Int} : hi z < 0 ↔ z < 0 := by unfold hi; omega
theorem hilo0 {z : Int} (h : z ≠ 0) : ¬ (hi z = 0 ∧ lo z = 0) := fun ⟨h1, h2⟩ => h (by rw [← hilo z, h1, h2]; rfl)
/-- is a product below 0? -/
def mns (a b : Int) : Bool := decide (hi a < 0) != decide (hi b < 0)
theorem neg_ab (a b : Int) : neg (mns a b) (ab a * ab b) = a * b := by
  unfold neg mns ab
  have h1 := @hi_neg a
  have h2 := @hi_neg b
  by_cases ha : a < 0 <;> by_cases hb : b < 0 <;> simp [h1, h2, ha, hb, Int.neg_mul, Int.mul_neg]

set_option maxRecDepth 100000 in
set_option maxHeartbeats 8000000 in
theorem wmul_big (a b sa sb P Q : Int) (hP : P ≠ 0) (HA : Ret 59 #[vW a] (vM sa)) (HB : Ret 59 #[vW b] (vM sb)) (HL : Ret 58 #[vM sa, vM sb] (vT2 (vM P) (vM Q))) : Ret 55 #[vW a, vW b] (vT2 (vW 0) (vI 2)) := by
  have hne := hilo0 hP
  intro w0
  have hst := St.start w0 (Θ := fun _ => True) (fun _ _ => trivial)
  refine en_ Try.func55 hst 31 [(0, vW a), (1, vW b)] (fun ac h => ?_)
  refine wp_seq ?_
  refine rg_ h [[0],[1],[2],[3]] [KE_ fun env => vP (pb env 0) 0, KE_ fun env => vP (pb env 1) 0, KE_ fun env => vP (pb env 2) 0, K_ (vI 0)] (fun E1 => [(2, vP (pb E1 0) 0), (3, vP (pb E1 1) 0), (4, vP (pb E1 2) 0), (5, vI 0)]) (W := [{ i := 0, T := 39, c0 := [vI (hi (a)), .int .u64 (lo (a))] }, { i := 1, T := 39, c0 := [vI (hi (b)), .int .u64 (lo (b))] }, { i := 2, T := 39, c0 := [vI 0, .int .u64 0] }]) (M' := fun E1 => [((pb E1 0), 39, [vI (hi (a)), .int .u64 (lo (a))]), ((pb E1 1), 39, [vI (hi (b)), .int .u64 (lo (b))]), ((pb E1 2), 39, [vI 0, .int .u64 0])]) (hs := c_ (bx0 0 (vW a)) <| c_ (bx0 1 (vW b)) <| c_ (al_ 2) <| c_ mv_ <| e_) (k := fun E1 ac wd h_1 => ?_)
  clear h
  refine then_n (wp_seq ?_)
  refine rg_ h_1 [[0],[0,1],[2],r_ 4,r_ 5,r_ 6,r_ 7,[0,1,2,3,4,5,7],[8],[9],[0,1,2,3,4,5,6,8,9,10],r_ 12] [K_ (vW a), K_ (vM sa), K_ (vW b), K_ (vM sb), K_ (vT2 (vM P) (vM Q)), K_ (vT2 (vM P) (vM Q)), K_ (vM P), K_ (vM Q), KE_ fun env => vP (pb env 8) 0, KE_ fun env => vP (pb env 9) 0, none, none] (fun E2 => [(2, vP (pb E1 0) 0), (3, vP (pb E1 1) 0), (4, vP (pb E1 2) 0), (5, vI 0), (6, vP (pb E2 8) 0), (7, vP (pb E2 9) 0)]) (W := [{ i := 8, T := 96, c0 := [.int .u64 0, .int .u64 0], s := some 10, c1 := fun _ => [.int .u64 (hi (P)), .int .u64 (lo (P))] }, { i := 9, T := 96, c0 := [.int .u64 0, .int .u64 0], s := some 11, c1 := fun _ => [.int .u64 (hi (Q)), .int .u64 (lo (Q))] }]) (M' := fun E2 => [((pb E1 0), 39, [vI (hi (a)), .int .u64 (lo (a))]), ((pb E1 1), 39, [vI (hi (b)), .int .u64 (lo (b))]), ((pb E1 2), 39, [vI 0, .int .u64 0]), ((pb E2 8), 96, [.int .u64 (hi (P)), .int .u64 (lo (P))]), ((pb E2 9), 96, [.int .u64 (hi (Q)), .int .u64 (lo (Q))])]) (hs := c_ (ld_ 0 (hrd := by exact rd39 rfl rfl)) <| c_ (cl_ Try.func59 (h := fun env => ⟨_, HA, rfl⟩)) <| c_ (ld_ 1 (hrd := by exact rd39 rfl rfl)) <| c_ (cl_ Try.func59 (h := fun env => ⟨_, HB, rfl⟩)) <| c_ (cl_ Try.func58 (h := fun env => ⟨_, HL, rfl⟩)) <| c_ mv_ <| c_ ext_ <| c_ ext_ <| c_ (al_ 3) <| c_ (al_ 4) <| c_ (sw_ 3 8 (hst := by exact fun _ _ _ hc => st96 rfl rfl rfl hc)) <| c_ (sw_ 4 9 (hst := by exact fun _ _ _ hc => st96 rfl rfl rfl hc)) <| e_) (k := fun E2 ac wd h_2 => ?_)
  clear h_1
  refine then_n (wp_seq (wp_seq ?_))
  refine rg_ h_2 [[0],[1],[0,1,2]] [K_ (vM P), K_ (.agg #[.int .u64 0, .int .u64 0]), K_ bT] (fun E3 => [(2, vP (pb E1 0) 0), (3, vP (pb E1 1) 0), (4, vP (pb E1 2) 0), (5, vI 0), (7, vP (pb E2 9) 0), (18, bT)]) (hs := c_ (ld_ 3 (hrd := by exact rd96 rfl rfl)) <| c_ (bd0 ([])) <| c_ (bi0 (vM P) (.agg #[.int .u64 0, .int .u64 0]) (h := by intro env w; simp [go_sem]; exact fun g1 g2 => hne ⟨g1, g2⟩)) <| e_) (k := fun E3 ac wd h_3 => ?_)
  clear h_2
  refine then_n ?_
  refine cT_ h_3 ?_
  refine wp_seq ?_
  refine rg_ h_3 (tri 3) [K_ (.agg #[vI 0, .int .u64 0]), none, K_ (vI 2)] (fun E4 => [(2, vP (pb E1 0) 0), (3, vP (pb E1 1) 0), (4, vP (pb E1 2) 0), (5, vI 2), (7, vP (pb E2 9) 0)]) (S := [⟨2, 1, fun _ => [vI 0, .int .u64 0]⟩]) (M' := fun E4 => [((pb E1 0), 39, [vI (hi (a)), .int .u64 (lo (a))]), ((pb E1 1), 39, [vI (hi (b)), .int .u64 (lo (b))]), ((pb E1 2), 39, [vI 0, .int .u64 0]), ((pb E2 8), 96, [.int .u64 (hi (P)), .int .u64 (lo (P))]), ((pb E2 9), 96, [.int .u64 (hi (Q)), .int .u64 (lo (Q))])]) (hs := c_ (bd0 ([])) <| c_ (se_ 2 (hst := by exact fun _ _ _ hc => st39 rfl rfl rfl hc)) <| c_ mv_ <| e_) (k := fun E4 ac wd h_4 => ?_)
  clear h_3
  refine then_n (wp_ret (then_ret ?_))
  refine lvCT (v := .agg #[vI 0, .int .u64 0]) Try.results55 h_4 2 (rd39 rfl rfl) ?_
  exact ⟨rfl, h_4.st.below⟩
set_option maxRecDepth 100000 in
set_option maxHeartbeats 8000000 in
theorem wmul_small (a b sa sb P Q v e : Int) (hP : P = 0) (HA : Ret 59 #[vW a] (vM sa)) (HB : Ret 59 #[vW b] (vM sb)) (HL : Ret 58 #[vM sa, vM sb] (vT2 (vM P) (vM Q))) (HS : Ret 62 #[vM Q, .bool (mns a b)] (vT2 (vW v) (vI e))) : Ret 55 #[vW a, vW b] (vT2 (vW v) (vI e)) := by
  intro w0
  have hst := St.start w0 (Θ := fun _ => True) (fun _ _ => trivial)
  refine en_ Try.func55 hst 31 [(0, vW a), (1, vW b)] (fun ac h => ?_)
  refine wp_seq ?_
  refine rg_ h [[0],[1],[2],[3]] [KE_ fun env => vP (pb env 0) 0, KE_ fun env => vP (pb env 1) 0, KE_ fun env => vP (pb env 2) 0, K_ (vI 0)] (fun E1 => [(2, vP (pb E1 0) 0), (3, vP (pb E1 1) 0), (4, vP (pb E1 2) 0), (5, vI 0)]) (W := [{ i := 0, T := 39, c0 := [vI (hi (a)), .int .u64 (lo (a))] }, { i := 1, T := 39, c0 := [vI (hi (b)), .int .u64 (lo (b))] }, { i := 2, T := 39, c0 := [vI 0, .int .u64 0] }]) (M' := fun E1 => [((pb E1 0), 39, [vI (hi (a)), .int .u64 (lo (a))]), ((pb E1 1), 39, [vI (hi (b)), .int .u64 (lo (b))]), ((pb E1 2), 39, [vI 0, .int .u64 0])]) (hs := c_ (bx0 0 (vW a)) <| c_ (bx0 1 (vW b)) <| c_ (al_ 2) <| c_ mv_ <| e_) (k := fun E1 ac wd h_1 => ?_)
  clear h
  refine then_n (wp_seq ?_)
  refine rg_ h_1 [[0],[0,1],[2],r_ 4,r_ 5,r_ 6,r_ 7,[0,1,2,3,4,5,7],[8],[9],[0,1,2,3,4,5,6,8,9,10],r_ 12] [K_ (vW a), K_ (vM sa), K_ (vW b), K_ (vM sb), K_ (vT2 (vM P) (vM Q)), K_ (vT2 (vM P) (vM Q)), K_ (vM P), K_ (vM Q), KE_ fun env => vP (pb env 8) 0, KE_ fun env => vP (pb env 9) 0, none, none] (fun E2 => [(2, vP (pb E1 0) 0), (3, vP (pb E1 1) 0), (4, vP (pb E1 2) 0), (5, vI 0), (6, vP (pb E2 8) 0), (7, vP (pb E2 9) 0)]) (W := [{ i := 8, T := 96, c0 := [.int .u64 0, .int .u64 0], s := some 10, c1 := fun _ => [.int .u64 (hi (P)), .int .u64 (lo (P))] }, { i := 9, T := 96, c0 := [.int .u64 0, .int .u64 0], s := some 11, c1 := fun _ => [.int .u64 (hi (Q)), .int .u64 (lo (Q))] }]) (M' := fun E2 => [((pb E1 0), 39, [vI (hi (a)), .int .u64 (lo (a))]), ((pb E1 1), 39, [vI (hi (b)), .int .u64 (lo (b))]), ((pb E1 2), 39, [vI 0, .int .u64 0]), ((pb E2 8), 96, [.int .u64 (hi (P)), .int .u64 (lo (P))]), ((pb E2 9), 96, [.int .u64 (hi (Q)), .int .u64 (lo (Q))])]) (hs := c_ (ld_ 0 (hrd := by exact rd39 rfl rfl)) <| c_ (cl_ Try.func59 (h := fun env => ⟨_, HA, rfl⟩)) <| c_ (ld_ 1 (hrd := by exact rd39 rfl rfl)) <| c_ (cl_ Try.func59 (h := fun env => ⟨_, HB, rfl⟩)) <| c_ (cl_ Try.func58 (h := fun env => ⟨_, HL, rfl⟩)) <| c_ mv_ <| c_ ext_ <| c_ ext_ <| c_ (al_ 3) <| c_ (al_ 4) <| c_ (sw_ 3 8 (hst := by exact fun _ _ _ hc => st96 rfl rfl rfl hc)) <| c_ (sw_ 4 9 (hst := by exact fun _ _ _ hc => st96 rfl rfl rfl hc)) <| e_) (k := fun E2 ac wd h_2 => ?_)
  clear h_1
  refine then_n (wp_seq (wp_seq ?_))
  refine rg_ h_2 [[0],[1],[0,1,2]] [K_ (vM P), K_ (.agg #[.int .u64 0, .int .u64 0]), K_ bF] (fun E3 => [(2, vP (pb E1 0) 0), (3, vP (pb E1 1) 0), (4, vP (pb E1 2) 0), (5, vI 0), (7, vP (pb E2 9) 0), (18, bF)]) (hs := c_ (ld_ 3 (hrd := by exact rd96 rfl rfl)) <| c_ (bd0 ([])) <| c_ (bi0 (vM P) (.agg #[.int .u64 0, .int .u64 0]) (h := by intro env w; subst hP; simp [go_sem, hi_zero, lo_zero])) <| e_) (k := fun E3 ac wd h_3 => ?_)
  clear h_2
  refine then_n ?_
  refine cF_ h_3 ?_
  refine wp_skip (then_n (wp_seq ?_))
  refine rg_ h_3 [[0],[1],[1,2],[1,2,3],[4],[4,5],[4,5,6],[1,2,3,4,5,6,7],r_ 9,r_ 10,[0,1,2,3,4,5,6,7,8,10],r_ 12,r_ 13] [K_ (vM Q), K_ (vP (pb E1 0) 0), K_ (vI (hi (a))), K_ (.bool (decide (hi (a) < 0))), K_ (vP (pb E1 1) 0), K_ (vI (hi (b))), K_ (.bool (decide (hi (b) < 0))), K_ (.bool ((decide (hi (a) < 0)) != (decide (hi (b) < 0)))), K_ (vT2 (vW v) (vI e)), K_ (vW v), K_ (vI e), none, K_ (vI e)] (fun E4 => [(4, vP (pb E1 2) 0), (5, vI e)]) (S := [⟨2, 11, fun _ => [vI (hi (v)), .int .u64 (lo (v))]⟩]) (M' := fun E4 => [((pb E1 0), 39, [vI (hi (a)), .int .u64 (lo (a))]), ((pb E1 1), 39, [vI (hi (b)), .int .u64 (lo (b))]), ((pb E1 2), 39, [vI (hi (v)), .int .u64 (lo (v))]), ((pb E2 8), 96, [.int .u64 (hi (P)), .int .u64 (lo (P))]), ((pb E2 9), 96, [.int .u64 (hi (Q)), .int .u64 (lo (Q))])]) (hs := c_ (ld_ 4 (hrd := by exact rd96 rfl rfl)) <| c_ (fa0 (vP (pb E1 0) 0)) <| c_ (ld_ 0 (hrd := by exact rd2 rfl)) <| c_ (bi0 (vI (hi (a))) (vI 0)) <| c_ (fa0 (vP (pb E1 1) 0)) <| c_ (ld_ 1 (hrd := by exact rd2 rfl)) <| c_ (bi0 (vI (hi (b))) (vI 0)) <| c_ (bi0 (.bool (decide (hi (a) < 0))) (.bool (decide (hi (b) < 0))) (h := by intro env w; simp [go_sem]; cases (decide (hi (a) < 0)) <;> cases (decide (hi (b) < 0)) <;> rfl)) <| c_ (cl_ Try.func62 (h := fun env => ⟨_, HS, rfl⟩)) <| c_ ext_ <| c_ ext_ <| c_ (se_ 2 (hst := by exact fun _ _ _ hc => st39 rfl rfl rfl hc)) <| c_ mv_ <| e_) (k := fun E4 ac wd h_4 => ?_)
  clear h_3
  refine then_n (wp_ret ?_)
  refine lvCT (v := vW v) Try.results55 h_4 2 (rd39 rfl rfl) ?_
  exact ⟨rfl, h_4.st.below⟩
theorem wmul_any (a b : Int) (ha : InW a) (hb : InW b) : Ret 55 #[vW a, vW b] (vT2 (vW (fitV (a * b))) (vI (fitE (a * b)))) := by
  have hn := neg_ab a b
  have h0 := (ab_in ha).1
  have h1 := (ab_in hb).1
  have h2 : 0 ≤ ab a * ab b := Int.mul_nonneg h0 h1
  by_cases hP : ab a * ab b / 340282366920938463463374607431768211456 = 0
  · have e : ab a * ab b % 340282366920938463463374607431768211456 = ab a * ab b := by omega
    have HS := signed_any (ab a * ab b) (by unfold InM; omega) (mns a b)
    rw [hn] at HS
    exact wmul_small a b (ab a) (ab b) _ _ _ _ hP (size_any a ha) (size_any b hb) (lmul_any (ab a) (ab b) (ab_in ha) (ab_in hb)) (by rw [e]; exact HS)
  · have hf : ¬ InW (a * b) := by
      rw [← hn]; unfold neg InW; split <;> omega
    rw [(fit_no hf).1, (fit_no hf).2]
    exact wmul_big a b (ab a) (ab b) _ _ hP (size_any a ha) (size_any b hb) (lmul_any (ab a) (ab b) (ab_in ha) (ab_in hb))

end Go.Proofs.Ytdfkghpgekmmlaa

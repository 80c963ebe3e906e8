/- wide.MulDiv (printed by my walk.py) -/
import Derived.Test.YtdfkghpgekmmlaaL4
import Derived.Test.YtdfkghpgekmmlaaC12
import Derived.Test.YtdfkghpgekmmlaaC6
import Derived.Test.YtdfkghpgekmmlaaM0
import Derived.Test.YtdfkghpgekmmlaaM1
import Derived.IntWalk
namespace Go.Proofs.Ytdfkghpgekmmlaa
open Go.RowKit
set_option linter.unusedVariables false
set_option linter.unusedSimpArgs false
attribute [local go_sem] vN bT bF vW vM vL vT2 vT3 vP vI execOp Act.eval evC hi_zero lo_zero Try.underlying39 Try.underlying96

set_option maxRecDepth 100000 in
set_option maxHeartbeats 8000000 in
theorem md_zero (a b d : Int) (HV : Ret 57 #[vW d] (.bool false)) : Ret 40 #[vW a, vW b, vW d] (vT3 (vW 0) (vW 0) (vI 3)) := by
  intro w0
  have hst := St.start w0 (Θ := fun _ => True) (fun _ _ => trivial)
  refine en_ Try.func40 hst 91 [(0, vW a), (1, vW b), (2, vW d)] (fun ac h => ?_)
  refine wp_seq ?_
  refine rg_ h [[0],[1],[2],[3],[4],[5]] [KE_ fun env => vP (pb env 0) 0, KE_ fun env => vP (pb env 1) 0, KE_ fun env => vP (pb env 2) 0, KE_ fun env => vP (pb env 3) 0, KE_ fun env => vP (pb env 4) 0, K_ (vI 0)] (fun E1 => [(3, vP (pb E1 0) 0), (4, vP (pb E1 1) 0), (5, vP (pb E1 2) 0), (6, vP (pb E1 3) 0), (7, vP (pb E1 4) 0), (8, vI 0)]) (W := [{ i := 0, T := 39, c0 := [vI (hi (a)), .int .u64 (lo (a))] }, { i := 1, T := 39, c0 := [vI (hi (b)), .int .u64 (lo (b))] }, { i := 2, T := 39, c0 := [vI (hi (d)), .int .u64 (lo (d))] }, { i := 3, T := 39, c0 := [vI 0, .int .u64 0] }, { i := 4, T := 39, c0 := [vI 0, .int .u64 0] }]) (M' := fun E1 => [((pb E1 0), 39, [vI (hi (a)), .int .u64 (lo (a))]), ((pb E1 1), 39, [vI (hi (b)), .int .u64 (lo (b))]), ((pb E1 2), 39, [vI (hi (d)), .int .u64 (lo (d))]), ((pb E1 3), 39, [vI 0, .int .u64 0]), ((pb E1 4), 39, [vI 0, .int .u64 0])]) (hs := c_ (bx0 0 (vW a)) <| c_ (bx0 1 (vW b)) <| c_ (bx0 2 (vW d)) <| c_ (al_ 3) <| c_ (al_ 4) <| c_ mv_ <| e_) (k := fun E1 ac wd h_1 => ?_)
  clear h
  refine then_n (wp_seq (wp_seq ?_))
  refine rg_ h_1 (tri 3) [K_ (vW d), K_ bF, K_ bT] (fun E2 => [(3, vP (pb E1 0) 0), (4, vP (pb E1 1) 0), (5, vP (pb E1 2) 0), (6, vP (pb E1 3) 0), (7, vP (pb E1 4) 0), (8, vI 0), (19, bT)]) (hs := c_ (ld_ 2 (hrd := by exact rd39 rfl rfl)) <| c_ (cl_ Try.func57 (h := fun env => ⟨_, HV, rfl⟩)) <| c_ (un0 bF) <| e_) (k := fun E2 ac wd h_2 => ?_)
  clear h_1
  refine then_n ?_
  refine cT_ h_2 ?_
  refine wp_seq ?_
  refine rg_ h_2 [[0],[1],[0,2],r_ 4,r_ 5] [K_ (.agg #[vI 0, .int .u64 0]), K_ (.agg #[vI 0, .int .u64 0]), none, none, K_ (vI 3)] (fun E3 => [(3, vP (pb E1 0) 0), (4, vP (pb E1 1) 0), (5, vP (pb E1 2) 0), (6, vP (pb E1 3) 0), (7, vP (pb E1 4) 0), (8, vI 3)]) (S := [⟨3, 2, fun _ => [vI 0, .int .u64 0]⟩, ⟨4, 3, fun _ => [vI 0, .int .u64 0]⟩]) (M' := fun E3 => [((pb E1 0), 39, [vI (hi (a)), .int .u64 (lo (a))]), ((pb E1 1), 39, [vI (hi (b)), .int .u64 (lo (b))]), ((pb E1 2), 39, [vI (hi (d)), .int .u64 (lo (d))]), ((pb E1 3), 39, [vI 0, .int .u64 0]), ((pb E1 4), 39, [vI 0, .int .u64 0])]) (hs := c_ (ld_ 3 (hrd := by exact rd39 rfl rfl)) <| c_ (ld_ 4 (hrd := by exact rd39 rfl rfl)) <| c_ (se_ 3 (hst := by exact fun _ _ _ hc => st39 rfl rfl rfl hc)) <| c_ (se_ 4 (hst := by exact fun _ _ _ hc => st39 rfl rfl rfl hc)) <| c_ mv_ <| e_) (k := fun E3 ac wd h_3 => ?_)
  clear h_2
  refine then_n (wp_ret (then_ret ?_))
  have s6 := h_3.g (t := 6) rfl
  have hc6 := (h_3.st.own 3 _ rfl).2
  have c6_0 := own_cell (o := 0) hc6 rfl
  have c6_1 := own_cell (o := 1) hc6 rfl
  have s7 := h_3.g (t := 7) rfl
  have hc7 := (h_3.st.own 4 _ rfl).2
  have c7_0 := own_cell (o := 0) hc7 rfl
  have c7_1 := own_cell (o := 1) hc7 rfl
  have s8 := h_3.g (t := 8) rfl
  refine leave (v := vT3 (.agg #[vI 0, .int .u64 0]) (.agg #[vI 0, .int .u64 0]) (vI 3)) h_3.df (by simp [results, Try.results40, go_sem, Array.getD_eq_getD_getElem?, s6, c6_0, c6_1, Try.underlying39, s7, c7_0, c7_1, Try.underlying39, s8]) ?_
  exact ⟨rfl, h_3.st.below⟩
set_option maxRecDepth 100000 in
set_option maxHeartbeats 8000000 in
theorem md_over (a b d sa sb H L : Int) (HV : Ret 57 #[vW d] (.bool true)) (HA : Ret 59 #[vW a] (vM sa)) (HB : Ret 59 #[vW b] (vM sb)) (HL : Ret 58 #[vM sa, vM sb] (vT2 (vM H) (vM L))) (HD : Ret 61 #[vW d] (vM d)) (HQ : Ret 60 #[vM H, vM L, vM d] (vT3 (vM 0) (vM 0) (.bool false))) : Ret 40 #[vW a, vW b, vW d] (vT3 (vW 0) (vW 0) (vI 2)) := by
  intro w0
  have hst := St.start w0 (Θ := fun _ => True) (fun _ _ => trivial)
  refine en_ Try.func40 hst 91 [(0, vW a), (1, vW b), (2, vW d)] (fun ac h => ?_)
  refine wp_seq ?_
  refine rg_ h [[0],[1],[2],[3],[4],[5]] [KE_ fun env => vP (pb env 0) 0, KE_ fun env => vP (pb env 1) 0, KE_ fun env => vP (pb env 2) 0, KE_ fun env => vP (pb env 3) 0, KE_ fun env => vP (pb env 4) 0, K_ (vI 0)] (fun E1 => [(3, vP (pb E1 0) 0), (4, vP (pb E1 1) 0), (5, vP (pb E1 2) 0), (6, vP (pb E1 3) 0), (7, vP (pb E1 4) 0), (8, vI 0)]) (W := [{ i := 0, T := 39, c0 := [vI (hi (a)), .int .u64 (lo (a))] }, { i := 1, T := 39, c0 := [vI (hi (b)), .int .u64 (lo (b))] }, { i := 2, T := 39, c0 := [vI (hi (d)), .int .u64 (lo (d))] }, { i := 3, T := 39, c0 := [vI 0, .int .u64 0] }, { i := 4, T := 39, c0 := [vI 0, .int .u64 0] }]) (M' := fun E1 => [((pb E1 0), 39, [vI (hi (a)), .int .u64 (lo (a))]), ((pb E1 1), 39, [vI (hi (b)), .int .u64 (lo (b))]), ((pb E1 2), 39, [vI (hi (d)), .int .u64 (lo (d))]), ((pb E1 3), 39, [vI 0, .int .u64 0]), ((pb E1 4), 39, [vI 0, .int .u64 0])]) (hs := c_ (bx0 0 (vW a)) <| c_ (bx0 1 (vW b)) <| c_ (bx0 2 (vW d)) <| c_ (al_ 3) <| c_ (al_ 4) <| c_ mv_ <| e_) (k := fun E1 ac wd h_1 => ?_)
  clear h
  refine then_n (wp_seq (wp_seq ?_))
  refine rg_ h_1 (tri 3) [K_ (vW d), K_ bT, K_ bF] (fun E2 => [(3, vP (pb E1 0) 0), (4, vP (pb E1 1) 0), (5, vP (pb E1 2) 0), (6, vP (pb E1 3) 0), (7, vP (pb E1 4) 0), (8, vI 0), (19, bF)]) (hs := c_ (ld_ 2 (hrd := by exact rd39 rfl rfl)) <| c_ (cl_ Try.func57 (h := fun env => ⟨_, HV, rfl⟩)) <| c_ (un0 bT) <| e_) (k := fun E2 ac wd h_2 => ?_)
  clear h_1
  refine then_n ?_
  refine cF_ h_2 ?_
  refine wp_skip (then_n (wp_seq ?_))
  refine rg_ h_2 [[0],[0,1],[2],r_ 4,r_ 5,r_ 6,r_ 7,[0,1,2,3,4,5,7],[8],[9],[0,1,2,3,4,5,6,8,9,10],r_ 12] [K_ (vW a), K_ (vM sa), K_ (vW b), K_ (vM sb), K_ (vT2 (vM H) (vM L)), K_ (vT2 (vM H) (vM L)), K_ (vM H), K_ (vM L), KE_ fun env => vP (pb env 8) 0, KE_ fun env => vP (pb env 9) 0, none, none] (fun E3 => [(3, vP (pb E1 0) 0), (4, vP (pb E1 1) 0), (5, vP (pb E1 2) 0), (6, vP (pb E1 3) 0), (7, vP (pb E1 4) 0), (8, vI 0), (9, vP (pb E3 8) 0), (10, vP (pb E3 9) 0)]) (W := [{ i := 8, T := 96, c0 := [.int .u64 0, .int .u64 0], s := some 10, c1 := fun _ => [.int .u64 (hi (H)), .int .u64 (lo (H))] }, { i := 9, T := 96, c0 := [.int .u64 0, .int .u64 0], s := some 11, c1 := fun _ => [.int .u64 (hi (L)), .int .u64 (lo (L))] }]) (M' := fun E3 => [((pb E1 0), 39, [vI (hi (a)), .int .u64 (lo (a))]), ((pb E1 1), 39, [vI (hi (b)), .int .u64 (lo (b))]), ((pb E1 2), 39, [vI (hi (d)), .int .u64 (lo (d))]), ((pb E1 3), 39, [vI 0, .int .u64 0]), ((pb E1 4), 39, [vI 0, .int .u64 0]), ((pb E3 8), 96, [.int .u64 (hi (H)), .int .u64 (lo (H))]), ((pb E3 9), 96, [.int .u64 (hi (L)), .int .u64 (lo (L))])]) (hs := c_ (ld_ 0 (hrd := by exact rd39 rfl rfl)) <| c_ (cl_ Try.func59 (h := fun env => ⟨_, HA, rfl⟩)) <| c_ (ld_ 1 (hrd := by exact rd39 rfl rfl)) <| c_ (cl_ Try.func59 (h := fun env => ⟨_, HB, rfl⟩)) <| c_ (cl_ Try.func58 (h := fun env => ⟨_, HL, rfl⟩)) <| c_ mv_ <| c_ ext_ <| c_ ext_ <| c_ (al_ 5) <| c_ (al_ 6) <| c_ (sw_ 5 8 (hst := by exact fun _ _ _ hc => st96 rfl rfl rfl hc)) <| c_ (sw_ 6 9 (hst := by exact fun _ _ _ hc => st96 rfl rfl rfl hc)) <| e_) (k := fun E3 ac wd h_3 => ?_)
  clear h_2
  refine then_n (wp_seq ?_)
  refine rg_ h_3 [[0],[1],[2],[2,3],r_ 5,r_ 6,r_ 7,[0,1,2,3,4,5,7],[0,1,2,3,4,5,8],[9],[10],[0,1,2,3,4,5,6,9,10,11],[0,1,2,3,4,5,6,7,9,10,11,12],r_ 14] [K_ (vM H), K_ (vM L), K_ (vW d), K_ (vM d), K_ (vT3 (vM 0) (vM 0) bF), K_ (vT3 (vM 0) (vM 0) bF), K_ (vM 0), K_ (vM 0), K_ bF, KE_ fun env => vP (pb env 9) 0, KE_ fun env => vP (pb env 10) 0, none, none, K_ bF] (fun E4 => [(3, vP (pb E1 0) 0), (4, vP (pb E1 1) 0), (5, vP (pb E1 2) 0), (6, vP (pb E1 3) 0), (7, vP (pb E1 4) 0), (8, vI 0), (11, vP (pb E4 9) 0), (12, vP (pb E4 10) 0), (13, bF)]) (W := [{ i := 9, T := 96, c0 := [.int .u64 0, .int .u64 0], s := some 11, c1 := fun _ => [.int .u64 (hi (0)), .int .u64 (lo (0))] }, { i := 10, T := 96, c0 := [.int .u64 0, .int .u64 0], s := some 12, c1 := fun _ => [.int .u64 (hi (0)), .int .u64 (lo (0))] }]) (M' := fun E4 => [((pb E1 0), 39, [vI (hi (a)), .int .u64 (lo (a))]), ((pb E1 1), 39, [vI (hi (b)), .int .u64 (lo (b))]), ((pb E1 2), 39, [vI (hi (d)), .int .u64 (lo (d))]), ((pb E1 3), 39, [vI 0, .int .u64 0]), ((pb E1 4), 39, [vI 0, .int .u64 0]), ((pb E3 8), 96, [.int .u64 (hi (H)), .int .u64 (lo (H))]), ((pb E3 9), 96, [.int .u64 (hi (L)), .int .u64 (lo (L))]), ((pb E4 9), 96, [.int .u64 (hi (0)), .int .u64 (lo (0))]), ((pb E4 10), 96, [.int .u64 (hi (0)), .int .u64 (lo (0))])]) (hs := c_ (ld_ 5 (hrd := by exact rd96 rfl rfl)) <| c_ (ld_ 6 (hrd := by exact rd96 rfl rfl)) <| c_ (ld_ 2 (hrd := by exact rd39 rfl rfl)) <| c_ (cl_ Try.func61 (h := fun env => ⟨_, HD, rfl⟩)) <| c_ (cl_ Try.func60 (h := fun env => ⟨_, HQ, rfl⟩)) <| c_ mv_ <| c_ ext_ <| c_ ext_ <| c_ ext_ <| c_ (al_ 7) <| c_ (al_ 8) <| c_ (sw_ 7 9 (hst := by exact fun _ _ _ hc => st96 rfl rfl rfl hc)) <| c_ (sw_ 8 10 (hst := by exact fun _ _ _ hc => st96 rfl rfl rfl hc)) <| c_ mv_ <| e_) (k := fun E4 ac wd h_4 => ?_)
  clear h_3
  refine then_n (wp_seq (wp_seq ?_))
  refine rg_ h_4 [[0],[0,1]] [K_ bF, K_ bT] (fun E5 => [(3, vP (pb E1 0) 0), (4, vP (pb E1 1) 0), (5, vP (pb E1 2) 0), (6, vP (pb E1 3) 0), (7, vP (pb E1 4) 0), (8, vI 0), (11, vP (pb E4 9) 0), (12, vP (pb E4 10) 0), (40, bT)]) (hs := c_ mv_ <| c_ (un0 bF) <| e_) (k := fun E5 ac wd h_5 => ?_)
  clear h_4
  refine then_n ?_
  refine cT_ h_5 ?_
  refine wp_seq ?_
  refine rg_ h_5 [[0],[1],[0,2],r_ 4,r_ 5] [K_ (.agg #[vI 0, .int .u64 0]), K_ (.agg #[vI 0, .int .u64 0]), none, none, K_ (vI 2)] (fun E6 => [(3, vP (pb E1 0) 0), (4, vP (pb E1 1) 0), (5, vP (pb E1 2) 0), (6, vP (pb E1 3) 0), (7, vP (pb E1 4) 0), (8, vI 2), (11, vP (pb E4 9) 0), (12, vP (pb E4 10) 0)]) (S := [⟨3, 2, fun _ => [vI 0, .int .u64 0]⟩, ⟨4, 3, fun _ => [vI 0, .int .u64 0]⟩]) (M' := fun E6 => [((pb E1 0), 39, [vI (hi (a)), .int .u64 (lo (a))]), ((pb E1 1), 39, [vI (hi (b)), .int .u64 (lo (b))]), ((pb E1 2), 39, [vI (hi (d)), .int .u64 (lo (d))]), ((pb E1 3), 39, [vI 0, .int .u64 0]), ((pb E1 4), 39, [vI 0, .int .u64 0]), ((pb E3 8), 96, [.int .u64 (hi (H)), .int .u64 (lo (H))]), ((pb E3 9), 96, [.int .u64 (hi (L)), .int .u64 (lo (L))]), ((pb E4 9), 96, [.int .u64 (hi (0)), .int .u64 (lo (0))]), ((pb E4 10), 96, [.int .u64 (hi (0)), .int .u64 (lo (0))])]) (hs := c_ (ld_ 3 (hrd := by exact rd39 rfl rfl)) <| c_ (ld_ 4 (hrd := by exact rd39 rfl rfl)) <| c_ (se_ 3 (hst := by exact fun _ _ _ hc => st39 rfl rfl rfl hc)) <| c_ (se_ 4 (hst := by exact fun _ _ _ hc => st39 rfl rfl rfl hc)) <| c_ mv_ <| e_) (k := fun E6 ac wd h_6 => ?_)
  clear h_5
  refine then_n (wp_ret (then_ret ?_))
  have s6 := h_6.g (t := 6) rfl
  have hc6 := (h_6.st.own 3 _ rfl).2
  have c6_0 := own_cell (o := 0) hc6 rfl
  have c6_1 := own_cell (o := 1) hc6 rfl
  have s7 := h_6.g (t := 7) rfl
  have hc7 := (h_6.st.own 4 _ rfl).2
  have c7_0 := own_cell (o := 0) hc7 rfl
  have c7_1 := own_cell (o := 1) hc7 rfl
  have s8 := h_6.g (t := 8) rfl
  refine leave (v := vT3 (.agg #[vI 0, .int .u64 0]) (.agg #[vI 0, .int .u64 0]) (vI 2)) h_6.df (by simp [results, Try.results40, go_sem, Array.getD_eq_getD_getElem?, s6, c6_0, c6_1, Try.underlying39, s7, c7_0, c7_1, Try.underlying39, s8]) ?_
  exact ⟨rfl, h_6.st.below⟩
set_option maxRecDepth 100000 in
set_option maxHeartbeats 8000000 in
theorem md_core (a b d sa sb H L n left v e q1 e1 rr : Int) (m lb bb : Bool) (res : Value) (HV : Ret 57 #[vW d] (.bool true)) (HA : Ret 59 #[vW a] (vM sa)) (HB : Ret 59 #[vW b] (vM sb)) (HL : Ret 58 #[vM sa, vM sb] (vT2 (vM H) (vM L))) (HD : Ret 61 #[vW d] (vM d)) (hm : (decide (hi a < 0) != decide (hi b < 0)) = m) (HQ : Ret 60 #[vM H, vM L, vM d] (vT3 (vM n) (vM left) (.bool true))) (HS : Ret 62 #[vM n, .bool (m)] (vT2 (vW v) (vI e))) (HF : Ret 63 #[vM left] (vW left)) (HE : Ret 64 #[vW v] (.bool (lb))) (HO : Ret 42 #[vI 1] (vW 1)) (HW : e = 0 → left ≠ 0 → lb = false → Ret 65 #[vW v, vW 1] (vT2 (vW q1) (vI e1))) (HLS : Ret 66 #[vM d, vM left] (vT2 (vM rr) (.bool (bb)))) (HF2 : e = 0 → left ≠ 0 → Ret 63 #[vM rr] (vW rr)) (hr1 : e ≠ 0 → res = vT3 (vW v) (vW 0) (vI e)) (hr2 : e = 0 → m = false ∨ left = 0 → res = vT3 (vW v) (vW left) (vI 0)) (hr3 : e = 0 → left ≠ 0 → m = true → lb = true → res = vT3 (vW 0) (vW 0) (vI 2)) (hr4 : e = 0 → left ≠ 0 → m = true → lb = false → res = vT3 (vW q1) (vW rr) (vI 0)) : Ret 40 #[vW a, vW b, vW d] (res) := by
  intro w0
  have hst := St.start w0 (Θ := fun _ => True) (fun _ _ => trivial)
  refine en_ Try.func40 hst 91 [(0, vW a), (1, vW b), (2, vW d)] (fun ac h => ?_)
  refine wp_seq ?_
  refine rg_ h [[0],[1],[2],[3],[4],[5]] [KE_ fun env => vP (pb env 0) 0, KE_ fun env => vP (pb env 1) 0, KE_ fun env => vP (pb env 2) 0, KE_ fun env => vP (pb env 3) 0, KE_ fun env => vP (pb env 4) 0, K_ (vI 0)] (fun E1 => [(3, vP (pb E1 0) 0), (4, vP (pb E1 1) 0), (5, vP (pb E1 2) 0), (6, vP (pb E1 3) 0), (7, vP (pb E1 4) 0), (8, vI 0)]) (W := [{ i := 0, T := 39, c0 := [vI (hi (a)), .int .u64 (lo (a))] }, { i := 1, T := 39, c0 := [vI (hi (b)), .int .u64 (lo (b))] }, { i := 2, T := 39, c0 := [vI (hi (d)), .int .u64 (lo (d))] }, { i := 3, T := 39, c0 := [vI 0, .int .u64 0] }, { i := 4, T := 39, c0 := [vI 0, .int .u64 0] }]) (M' := fun E1 => [((pb E1 0), 39, [vI (hi (a)), .int .u64 (lo (a))]), ((pb E1 1), 39, [vI (hi (b)), .int .u64 (lo (b))]), ((pb E1 2), 39, [vI (hi (d)), .int .u64 (lo (d))]), ((pb E1 3), 39, [vI 0, .int .u64 0]), ((pb E1 4), 39, [vI 0, .int .u64 0])]) (hs := c_ (bx0 0 (vW a)) <| c_ (bx0 1 (vW b)) <| c_ (bx0 2 (vW d)) <| c_ (al_ 3) <| c_ (al_ 4) <| c_ mv_ <| e_) (k := fun E1 ac wd h_1 => ?_)
  clear h
  refine then_n (wp_seq (wp_seq ?_))
  refine rg_ h_1 (tri 3) [K_ (vW d), K_ bT, K_ bF] (fun E2 => [(3, vP (pb E1 0) 0), (4, vP (pb E1 1) 0), (5, vP (pb E1 2) 0), (6, vP (pb E1 3) 0), (7, vP (pb E1 4) 0), (8, vI 0), (19, bF)]) (hs := c_ (ld_ 2 (hrd := by exact rd39 rfl rfl)) <| c_ (cl_ Try.func57 (h := fun env => ⟨_, HV, rfl⟩)) <| c_ (un0 bT) <| e_) (k := fun E2 ac wd h_2 => ?_)
  clear h_1
  refine then_n ?_
  refine cF_ h_2 ?_
  refine wp_skip (then_n (wp_seq ?_))
  refine rg_ h_2 [[0],[0,1],[2],r_ 4,r_ 5,r_ 6,r_ 7,[0,1,2,3,4,5,7],[8],[9],[0,1,2,3,4,5,6,8,9,10],r_ 12] [K_ (vW a), K_ (vM sa), K_ (vW b), K_ (vM sb), K_ (vT2 (vM H) (vM L)), K_ (vT2 (vM H) (vM L)), K_ (vM H), K_ (vM L), KE_ fun env => vP (pb env 8) 0, KE_ fun env => vP (pb env 9) 0, none, none] (fun E3 => [(3, vP (pb E1 0) 0), (4, vP (pb E1 1) 0), (5, vP (pb E1 2) 0), (6, vP (pb E1 3) 0), (7, vP (pb E1 4) 0), (8, vI 0), (9, vP (pb E3 8) 0), (10, vP (pb E3 9) 0)]) (W := [{ i := 8, T := 96, c0 := [.int .u64 0, .int .u64 0], s := some 10, c1 := fun _ => [.int .u64 (hi (H)), .int .u64 (lo (H))] }, { i := 9, T := 96, c0 := [.int .u64 0, .int .u64 0], s := some 11, c1 := fun _ => [.int .u64 (hi (L)), .int .u64 (lo (L))] }]) (M' := fun E3 => [((pb E1 0), 39, [vI (hi (a)), .int .u64 (lo (a))]), ((pb E1 1), 39, [vI (hi (b)), .int .u64 (lo (b))]), ((pb E1 2), 39, [vI (hi (d)), .int .u64 (lo (d))]), ((pb E1 3), 39, [vI 0, .int .u64 0]), ((pb E1 4), 39, [vI 0, .int .u64 0]), ((pb E3 8), 96, [.int .u64 (hi (H)), .int .u64 (lo (H))]), ((pb E3 9), 96, [.int .u64 (hi (L)), .int .u64 (lo (L))])]) (hs := c_ (ld_ 0 (hrd := by exact rd39 rfl rfl)) <| c_ (cl_ Try.func59 (h := fun env => ⟨_, HA, rfl⟩)) <| c_ (ld_ 1 (hrd := by exact rd39 rfl rfl)) <| c_ (cl_ Try.func59 (h := fun env => ⟨_, HB, rfl⟩)) <| c_ (cl_ Try.func58 (h := fun env => ⟨_, HL, rfl⟩)) <| c_ mv_ <| c_ ext_ <| c_ ext_ <| c_ (al_ 5) <| c_ (al_ 6) <| c_ (sw_ 5 8 (hst := by exact fun _ _ _ hc => st96 rfl rfl rfl hc)) <| c_ (sw_ 6 9 (hst := by exact fun _ _ _ hc => st96 rfl rfl rfl hc)) <| e_) (k := fun E3 ac wd h_3 => ?_)
  clear h_2
  refine then_n (wp_seq ?_)
  refine rg_ h_3 [[0],[1],[2],[2,3],r_ 5,r_ 6,r_ 7,[0,1,2,3,4,5,7],[0,1,2,3,4,5,8],[9],[10],[0,1,2,3,4,5,6,9,10,11],[0,1,2,3,4,5,6,7,9,10,11,12],r_ 14] [K_ (vM H), K_ (vM L), K_ (vW d), K_ (vM d), K_ (vT3 (vM n) (vM left) bT), K_ (vT3 (vM n) (vM left) bT), K_ (vM n), K_ (vM left), K_ bT, KE_ fun env => vP (pb env 9) 0, KE_ fun env => vP (pb env 10) 0, none, none, K_ bT] (fun E4 => [(3, vP (pb E1 0) 0), (4, vP (pb E1 1) 0), (5, vP (pb E1 2) 0), (6, vP (pb E1 3) 0), (7, vP (pb E1 4) 0), (8, vI 0), (11, vP (pb E4 9) 0), (12, vP (pb E4 10) 0), (13, bT)]) (W := [{ i := 9, T := 96, c0 := [.int .u64 0, .int .u64 0], s := some 11, c1 := fun _ => [.int .u64 (hi (n)), .int .u64 (lo (n))] }, { i := 10, T := 96, c0 := [.int .u64 0, .int .u64 0], s := some 12, c1 := fun _ => [.int .u64 (hi (left)), .int .u64 (lo (left))] }]) (M' := fun E4 => [((pb E1 0), 39, [vI (hi (a)), .int .u64 (lo (a))]), ((pb E1 1), 39, [vI (hi (b)), .int .u64 (lo (b))]), ((pb E1 2), 39, [vI (hi (d)), .int .u64 (lo (d))]), ((pb E1 3), 39, [vI 0, .int .u64 0]), ((pb E1 4), 39, [vI 0, .int .u64 0]), ((pb E3 8), 96, [.int .u64 (hi (H)), .int .u64 (lo (H))]), ((pb E3 9), 96, [.int .u64 (hi (L)), .int .u64 (lo (L))]), ((pb E4 9), 96, [.int .u64 (hi (n)), .int .u64 (lo (n))]), ((pb E4 10), 96, [.int .u64 (hi (left)), .int .u64 (lo (left))])]) (hs := c_ (ld_ 5 (hrd := by exact rd96 rfl rfl)) <| c_ (ld_ 6 (hrd := by exact rd96 rfl rfl)) <| c_ (ld_ 2 (hrd := by exact rd39 rfl rfl)) <| c_ (cl_ Try.func61 (h := fun env => ⟨_, HD, rfl⟩)) <| c_ (cl_ Try.func60 (h := fun env => ⟨_, HQ, rfl⟩)) <| c_ mv_ <| c_ ext_ <| c_ ext_ <| c_ ext_ <| c_ (al_ 7) <| c_ (al_ 8) <| c_ (sw_ 7 9 (hst := by exact fun _ _ _ hc => st96 rfl rfl rfl hc)) <| c_ (sw_ 8 10 (hst := by exact fun _ _ _ hc => st96 rfl rfl rfl hc)) <| c_ mv_ <| e_) (k := fun E4 ac wd h_4 => ?_)
  clear h_3
  refine then_n (wp_seq (wp_seq ?_))
  refine rg_ h_4 [[0],[0,1]] [K_ bT, K_ bF] (fun E5 => [(3, vP (pb E1 0) 0), (4, vP (pb E1 1) 0), (5, vP (pb E1 2) 0), (6, vP (pb E1 3) 0), (7, vP (pb E1 4) 0), (8, vI 0), (11, vP (pb E4 9) 0), (12, vP (pb E4 10) 0), (40, bF)]) (hs := c_ mv_ <| c_ (un0 bT) <| e_) (k := fun E5 ac wd h_5 => ?_)
  clear h_4
  refine then_n ?_
  refine cF_ h_5 ?_
  refine wp_skip (then_n (wp_seq ?_))
  refine rg_ h_5 [[0],[0,1],[0,1,2],[3],[3,4],[3,4,5],r_ 7,r_ 8] [K_ (vP (pb E1 0) 0), K_ (vI (hi (a))), K_ (.bool (decide (hi (a) < 0))), K_ (vP (pb E1 1) 0), K_ (vI (hi (b))), K_ (.bool (decide (hi (b) < 0))), K_ (.bool (m)), K_ (.bool (m))] (fun E6 => [(5, vP (pb E1 2) 0), (6, vP (pb E1 3) 0), (7, vP (pb E1 4) 0), (8, vI 0), (11, vP (pb E4 9) 0), (12, vP (pb E4 10) 0), (14, .bool (m))]) (hs := c_ (fa0 (vP (pb E1 0) 0)) <| c_ (ld_ 0 (hrd := by exact rd2 rfl)) <| c_ (bi0 (vI (hi (a))) (vI 0)) <| c_ (fa0 (vP (pb E1 1) 0)) <| c_ (ld_ 1 (hrd := by exact rd2 rfl)) <| c_ (bi0 (vI (hi (b))) (vI 0)) <| c_ (bi0 (.bool (decide (hi (a) < 0))) (.bool (decide (hi (b) < 0))) (h := by intro env w; (first | (simp [go_sem, hm]; done) | (simp [go_sem]; rw [← hm]; cases (decide (hi a < 0)) <;> cases (decide (hi b < 0)) <;> rfl)))) <| c_ mv_ <| e_) (k := fun E6 ac wd h_6 => ?_)
  clear h_5
  refine then_n (wp_seq ?_)
  refine rg_ h_6 [[0],[1],[0,1,2],r_ 4,r_ 5,[0,1,2,3,5],[0,1,2,3,4,6],r_ 8] [K_ (vM n), K_ (.bool (m)), K_ (vT2 (vW v) (vI e)), K_ (vT2 (vW v) (vI e)), K_ (vW v), K_ (vI e), none, K_ (vI e)] (fun E7 => [(5, vP (pb E1 2) 0), (6, vP (pb E1 3) 0), (7, vP (pb E1 4) 0), (8, vI e), (12, vP (pb E4 10) 0), (14, .bool (m))]) (S := [⟨3, 6, fun _ => [vI (hi (v)), .int .u64 (lo (v))]⟩]) (M' := fun E7 => [((pb E1 0), 39, [vI (hi (a)), .int .u64 (lo (a))]), ((pb E1 1), 39, [vI (hi (b)), .int .u64 (lo (b))]), ((pb E1 2), 39, [vI (hi (d)), .int .u64 (lo (d))]), ((pb E1 3), 39, [vI (hi (v)), .int .u64 (lo (v))]), ((pb E1 4), 39, [vI 0, .int .u64 0]), ((pb E3 8), 96, [.int .u64 (hi (H)), .int .u64 (lo (H))]), ((pb E3 9), 96, [.int .u64 (hi (L)), .int .u64 (lo (L))]), ((pb E4 9), 96, [.int .u64 (hi (n)), .int .u64 (lo (n))]), ((pb E4 10), 96, [.int .u64 (hi (left)), .int .u64 (lo (left))])]) (hs := c_ (ld_ 7 (hrd := by exact rd96 rfl rfl)) <| c_ mv_ <| c_ (cl_ Try.func62 (h := fun env => ⟨_, HS, rfl⟩)) <| c_ mv_ <| c_ ext_ <| c_ ext_ <| c_ (se_ 3 (hst := by exact fun _ _ _ hc => st39 rfl rfl rfl hc)) <| c_ mv_ <| e_) (k := fun E7 ac wd h_7 => ?_)
  clear h_6
  refine then_n (wp_seq (wp_seq ?_))
  refine rg_ h_7 [[0],[0,1]] [K_ (vI e), K_ (.bool (e != 0))] (fun E8 => [(5, vP (pb E1 2) 0), (6, vP (pb E1 3) 0), (7, vP (pb E1 4) 0), (8, vI e), (12, vP (pb E4 10) 0), (14, .bool (m)), (57, .bool (e != 0))]) (hs := c_ mv_ <| c_ (bi0 (vI e) (vI 0)) <| e_) (k := fun E8 ac wd h_8 => ?_)
  clear h_7
  refine then_n ?_
  refine wp_cond_split (eval_tmp (h_8.g (t := 57) rfl)) (fun h9 => ?_) (fun h9 => ?_)
  refine wp_seq ?_
  refine rg_ h_8 [[0],[1],[2],[0,3],[0,1,3,4],r_ 6] [K_ (vW v), K_ (.agg #[vI 0, .int .u64 0]), K_ (vI e), none, none, K_ (vI e)] (fun E9 => [(5, vP (pb E1 2) 0), (6, vP (pb E1 3) 0), (7, vP (pb E1 4) 0), (8, vI e), (12, vP (pb E4 10) 0), (14, .bool (m))]) (S := [⟨3, 3, fun _ => [vI (hi (v)), .int .u64 (lo (v))]⟩, ⟨4, 4, fun _ => [vI 0, .int .u64 0]⟩]) (M' := fun E9 => [((pb E1 0), 39, [vI (hi (a)), .int .u64 (lo (a))]), ((pb E1 1), 39, [vI (hi (b)), .int .u64 (lo (b))]), ((pb E1 2), 39, [vI (hi (d)), .int .u64 (lo (d))]), ((pb E1 3), 39, [vI (hi (v)), .int .u64 (lo (v))]), ((pb E1 4), 39, [vI 0, .int .u64 0]), ((pb E3 8), 96, [.int .u64 (hi (H)), .int .u64 (lo (H))]), ((pb E3 9), 96, [.int .u64 (hi (L)), .int .u64 (lo (L))]), ((pb E4 9), 96, [.int .u64 (hi (n)), .int .u64 (lo (n))]), ((pb E4 10), 96, [.int .u64 (hi (left)), .int .u64 (lo (left))])]) (hs := c_ (ld_ 3 (hrd := by exact rd39 rfl rfl)) <| c_ (ld_ 4 (hrd := by exact rd39 rfl rfl)) <| c_ mv_ <| c_ (se_ 3 (hst := by exact fun _ _ _ hc => st39 rfl rfl rfl hc)) <| c_ (se_ 4 (hst := by exact fun _ _ _ hc => st39 rfl rfl rfl hc)) <| c_ mv_ <| e_) (k := fun E9 ac wd h_9 => ?_)
  clear h_8
  refine then_n (wp_ret (then_ret ?_))
  have s6 := h_9.g (t := 6) rfl
  have hc6 := (h_9.st.own 3 _ rfl).2
  have c6_0 := own_cell (o := 0) hc6 rfl
  have c6_1 := own_cell (o := 1) hc6 rfl
  have s7 := h_9.g (t := 7) rfl
  have hc7 := (h_9.st.own 4 _ rfl).2
  have c7_0 := own_cell (o := 0) hc7 rfl
  have c7_1 := own_cell (o := 1) hc7 rfl
  have s8 := h_9.g (t := 8) rfl
  refine leave (v := vT3 (vW v) (.agg #[vI 0, .int .u64 0]) (vI e)) h_9.df (by simp [results, Try.results40, go_sem, Array.getD_eq_getD_getElem?, s6, c6_0, c6_1, Try.underlying39, s7, c7_0, c7_1, Try.underlying39, s8]) ?_
  exact ⟨congrArg Ending.returned (hr1 (by simpa using h9)).symm, h_9.st.below⟩
  refine wp_skip (then_n (wp_seq (wp_seq ?_)))
  cases m
  refine rg_ h_8 [[0],[0,1],[0,1,2],r_ 4,[0,1,2,4],r_ 6,r_ 7] [K_ bF, K_ bT, K_ bT, K_ undef, K_ undef, K_ undef, K_ bT] (fun E9 => [(5, vP (pb E1 2) 0), (6, vP (pb E1 3) 0), (7, vP (pb E1 4) 0), (8, vI e), (12, vP (pb E4 10) 0), (67, bT)]) (hs := c_ mv_ <| c_ (un0 bF) <| c_ mv_ <| c_ off_ <| c_ off_ <| c_ off_ <| c_ (pk0 bT bT undef) <| e_) (k := fun E9 ac wd h_9 => ?_)
  clear h_8
  refine then_n ?_
  refine cT_ h_9 ?_
  refine wp_seq ?_
  refine rg_ h_9 [[0],[1],[1,2],r_ 4,r_ 5,r_ 6] [K_ (vW v), K_ (vM left), K_ (vW left), none, none, K_ (vI 0)] (fun E10 => [(5, vP (pb E1 2) 0), (6, vP (pb E1 3) 0), (7, vP (pb E1 4) 0), (8, vI 0), (12, vP (pb E4 10) 0)]) (S := [⟨3, 3, fun _ => [vI (hi (v)), .int .u64 (lo (v))]⟩, ⟨4, 4, fun _ => [vI (hi (left)), .int .u64 (lo (left))]⟩]) (M' := fun E10 => [((pb E1 0), 39, [vI (hi (a)), .int .u64 (lo (a))]), ((pb E1 1), 39, [vI (hi (b)), .int .u64 (lo (b))]), ((pb E1 2), 39, [vI (hi (d)), .int .u64 (lo (d))]), ((pb E1 3), 39, [vI (hi (v)), .int .u64 (lo (v))]), ((pb E1 4), 39, [vI (hi (left)), .int .u64 (lo (left))]), ((pb E3 8), 96, [.int .u64 (hi (H)), .int .u64 (lo (H))]), ((pb E3 9), 96, [.int .u64 (hi (L)), .int .u64 (lo (L))]), ((pb E4 9), 96, [.int .u64 (hi (n)), .int .u64 (lo (n))]), ((pb E4 10), 96, [.int .u64 (hi (left)), .int .u64 (lo (left))])]) (hs := c_ (ld_ 3 (hrd := by exact rd39 rfl rfl)) <| c_ (ld_ 8 (hrd := by exact rd96 rfl rfl)) <| c_ (cl_ Try.func63 (h := fun env => ⟨_, HF, rfl⟩)) <| c_ (se_ 3 (hst := by exact fun _ _ _ hc => st39 rfl rfl rfl hc)) <| c_ (se_ 4 (hst := by exact fun _ _ _ hc => st39 rfl rfl rfl hc)) <| c_ mv_ <| e_) (k := fun E10 ac wd h_10 => ?_)
  clear h_9
  refine then_n (wp_ret (then_ret ?_))
  have s6 := h_10.g (t := 6) rfl
  have hc6 := (h_10.st.own 3 _ rfl).2
  have c6_0 := own_cell (o := 0) hc6 rfl
  have c6_1 := own_cell (o := 1) hc6 rfl
  have s7 := h_10.g (t := 7) rfl
  have hc7 := (h_10.st.own 4 _ rfl).2
  have c7_0 := own_cell (o := 0) hc7 rfl
  have c7_1 := own_cell (o := 1) hc7 rfl
  have s8 := h_10.g (t := 8) rfl
  refine leave (v := vT3 (vW v) (vW left) (vI 0)) h_10.df (by simp [results, Try.results40, go_sem, Array.getD_eq_getD_getElem?, s6, c6_0, c6_1, Try.underlying39, s7, c7_0, c7_1, Try.underlying39, s8]) ?_
  exact ⟨congrArg Ending.returned (hr2 (by simpa using h9) (.inl rfl)).symm, h_10.st.below⟩
  by_cases hl : left = 0
  subst hl
  refine rg_ h_8 [[0],[0,1],[0,1,2],r_ 4,[0,1,2,4],r_ 6,r_ 7] [K_ bT, K_ bF, K_ bF, K_ (vM 0), K_ (.agg #[.int .u64 0, .int .u64 0]), K_ bT, K_ bT] (fun E9 => [(5, vP (pb E1 2) 0), (6, vP (pb E1 3) 0), (7, vP (pb E1 4) 0), (8, vI e), (12, vP (pb E4 10) 0), (67, bT)]) (hs := c_ mv_ <| c_ (un0 bT) <| c_ mv_ <| c_ (ld_ 8 (hrd := by exact rd96 rfl rfl)) <| c_ (bd0 ([])) <| c_ (bi0 (vM 0) (.agg #[.int .u64 0, .int .u64 0]) (h := by intro env w; simp [go_sem, hi_zero, lo_zero])) <| c_ (pk0 bF bT bT (h := by intro env w; simp [go_sem, hi_zero, lo_zero])) <| e_) (k := fun E9 ac wd h_9 => ?_)
  clear h_8
  refine then_n ?_
  refine cT_ h_9 ?_
  refine wp_seq ?_
  refine rg_ h_9 [[0],[1],[1,2],r_ 4,r_ 5,r_ 6] [K_ (vW v), K_ (vM 0), K_ (vW 0), none, none, K_ (vI 0)] (fun E10 => [(5, vP (pb E1 2) 0), (6, vP (pb E1 3) 0), (7, vP (pb E1 4) 0), (8, vI 0), (12, vP (pb E4 10) 0)]) (S := [⟨3, 3, fun _ => [vI (hi (v)), .int .u64 (lo (v))]⟩, ⟨4, 4, fun _ => [vI (hi (0)), .int .u64 (lo (0))]⟩]) (M' := fun E10 => [((pb E1 0), 39, [vI (hi (a)), .int .u64 (lo (a))]), ((pb E1 1), 39, [vI (hi (b)), .int .u64 (lo (b))]), ((pb E1 2), 39, [vI (hi (d)), .int .u64 (lo (d))]), ((pb E1 3), 39, [vI (hi (v)), .int .u64 (lo (v))]), ((pb E1 4), 39, [vI (hi (0)), .int .u64 (lo (0))]), ((pb E3 8), 96, [.int .u64 (hi (H)), .int .u64 (lo (H))]), ((pb E3 9), 96, [.int .u64 (hi (L)), .int .u64 (lo (L))]), ((pb E4 9), 96, [.int .u64 (hi (n)), .int .u64 (lo (n))]), ((pb E4 10), 96, [.int .u64 (hi (0)), .int .u64 (lo (0))])]) (hs := c_ (ld_ 3 (hrd := by exact rd39 rfl rfl)) <| c_ (ld_ 8 (hrd := by exact rd96 rfl rfl)) <| c_ (cl_ Try.func63 (h := fun env => ⟨_, HF, rfl⟩)) <| c_ (se_ 3 (hst := by exact fun _ _ _ hc => st39 rfl rfl rfl hc)) <| c_ (se_ 4 (hst := by exact fun _ _ _ hc => st39 rfl rfl rfl hc)) <| c_ mv_ <| e_) (k := fun E10 ac wd h_10 => ?_)
  clear h_9
  refine then_n (wp_ret (then_ret ?_))
  have s6 := h_10.g (t := 6) rfl
  have hc6 := (h_10.st.own 3 _ rfl).2
  have c6_0 := own_cell (o := 0) hc6 rfl
  have c6_1 := own_cell (o := 1) hc6 rfl
  have s7 := h_10.g (t := 7) rfl
  have hc7 := (h_10.st.own 4 _ rfl).2
  have c7_0 := own_cell (o := 0) hc7 rfl
  have c7_1 := own_cell (o := 1) hc7 rfl
  have s8 := h_10.g (t := 8) rfl
  refine leave (v := vT3 (vW v) (vW 0) (vI 0)) h_10.df (by simp [results, Try.results40, go_sem, Array.getD_eq_getD_getElem?, s6, c6_0, c6_1, Try.underlying39, s7, c7_0, c7_1, Try.underlying39, s8]) ?_
  exact ⟨congrArg Ending.returned (hr2 (by simpa using h9) (.inr rfl)).symm, h_10.st.below⟩
  have hne := hilo0 hl
  refine rg_ h_8 [[0],[0,1],[0,1,2],r_ 4,[0,1,2,4],r_ 6,r_ 7] [K_ bT, K_ bF, K_ bF, K_ (vM left), K_ (.agg #[.int .u64 0, .int .u64 0]), K_ bF, K_ bF] (fun E9 => [(5, vP (pb E1 2) 0), (6, vP (pb E1 3) 0), (7, vP (pb E1 4) 0), (8, vI e), (12, vP (pb E4 10) 0), (67, bF)]) (hs := c_ mv_ <| c_ (un0 bT) <| c_ mv_ <| c_ (ld_ 8 (hrd := by exact rd96 rfl rfl)) <| c_ (bd0 ([])) <| c_ (bi0 (vM left) (.agg #[.int .u64 0, .int .u64 0]) (h := by intro env w; (first | (simp [go_sem]; done) | (simp [go_sem]; exact fun g1 g2 => hne ⟨g1, g2⟩)))) <| c_ (pk0 bF bT bF (h := by intro env w; (first | (simp [go_sem]; done) | (simp [go_sem]; exact fun g1 g2 => hne ⟨g1, g2⟩)))) <| e_) (k := fun E9 ac wd h_9 => ?_)
  clear h_8
  refine then_n ?_
  refine cF_ h_9 ?_
  refine wp_skip (then_n (wp_seq (wp_seq ?_)))
  refine rg_ h_9 [[0],[0,1]] [K_ (vW v), K_ (.bool (lb))] (fun E10 => [(5, vP (pb E1 2) 0), (6, vP (pb E1 3) 0), (7, vP (pb E1 4) 0), (8, vI e), (12, vP (pb E4 10) 0), (72, .bool (lb))]) (hs := c_ (ld_ 3 (hrd := by exact rd39 rfl rfl)) <| c_ (cl_ Try.func64 (h := fun env => ⟨_, HE, rfl⟩)) <| e_) (k := fun E10 ac wd h_10 => ?_)
  clear h_9
  refine then_n ?_
  refine wp_cond_split (eval_tmp (h_10.g (t := 72) rfl)) (fun h13 => ?_) (fun h13 => ?_)
  refine wp_seq ?_
  refine rg_ h_10 [[0],[1],[0,2],r_ 4,r_ 5] [K_ (.agg #[vI 0, .int .u64 0]), K_ (.agg #[vI 0, .int .u64 0]), none, none, K_ (vI 2)] (fun E11 => [(5, vP (pb E1 2) 0), (6, vP (pb E1 3) 0), (7, vP (pb E1 4) 0), (8, vI 2), (12, vP (pb E4 10) 0)]) (S := [⟨3, 2, fun _ => [vI 0, .int .u64 0]⟩, ⟨4, 3, fun _ => [vI 0, .int .u64 0]⟩]) (M' := fun E11 => [((pb E1 0), 39, [vI (hi (a)), .int .u64 (lo (a))]), ((pb E1 1), 39, [vI (hi (b)), .int .u64 (lo (b))]), ((pb E1 2), 39, [vI (hi (d)), .int .u64 (lo (d))]), ((pb E1 3), 39, [vI 0, .int .u64 0]), ((pb E1 4), 39, [vI 0, .int .u64 0]), ((pb E3 8), 96, [.int .u64 (hi (H)), .int .u64 (lo (H))]), ((pb E3 9), 96, [.int .u64 (hi (L)), .int .u64 (lo (L))]), ((pb E4 9), 96, [.int .u64 (hi (n)), .int .u64 (lo (n))]), ((pb E4 10), 96, [.int .u64 (hi (left)), .int .u64 (lo (left))])]) (hs := c_ (bd0 ([])) <| c_ (bd0 ([])) <| c_ (se_ 3 (hst := by exact fun _ _ _ hc => st39 rfl rfl rfl hc)) <| c_ (se_ 4 (hst := by exact fun _ _ _ hc => st39 rfl rfl rfl hc)) <| c_ mv_ <| e_) (k := fun E11 ac wd h_11 => ?_)
  clear h_10
  refine then_n (wp_ret (then_ret ?_))
  have s6 := h_11.g (t := 6) rfl
  have hc6 := (h_11.st.own 3 _ rfl).2
  have c6_0 := own_cell (o := 0) hc6 rfl
  have c6_1 := own_cell (o := 1) hc6 rfl
  have s7 := h_11.g (t := 7) rfl
  have hc7 := (h_11.st.own 4 _ rfl).2
  have c7_0 := own_cell (o := 0) hc7 rfl
  have c7_1 := own_cell (o := 1) hc7 rfl
  have s8 := h_11.g (t := 8) rfl
  refine leave (v := vT3 (.agg #[vI 0, .int .u64 0]) (.agg #[vI 0, .int .u64 0]) (vI 2)) h_11.df (by simp [results, Try.results40, go_sem, Array.getD_eq_getD_getElem?, s6, c6_0, c6_1, Try.underlying39, s7, c7_0, c7_1, Try.underlying39, s8]) ?_
  exact ⟨congrArg Ending.returned (hr3 (by simpa using h9) hl rfl (by simpa using h13)).symm, h_11.st.below⟩
  refine wp_skip (then_n (wp_seq ?_))
  refine rg_ h_10 [[0],[1],[0,1,2],r_ 4,r_ 5,[0,1,2,3,5],[0,1,2,3,4,6]] [K_ (vW v), K_ (vW 1), K_ (vT2 (vW q1) (vI e1)), K_ (vT2 (vW q1) (vI e1)), K_ (vW q1), K_ (vI e1), none] (fun E11 => [(5, vP (pb E1 2) 0), (6, vP (pb E1 3) 0), (7, vP (pb E1 4) 0), (8, vI e), (12, vP (pb E4 10) 0)]) (S := [⟨3, 6, fun _ => [vI (hi (q1)), .int .u64 (lo (q1))]⟩]) (M' := fun E11 => [((pb E1 0), 39, [vI (hi (a)), .int .u64 (lo (a))]), ((pb E1 1), 39, [vI (hi (b)), .int .u64 (lo (b))]), ((pb E1 2), 39, [vI (hi (d)), .int .u64 (lo (d))]), ((pb E1 3), 39, [vI (hi (q1)), .int .u64 (lo (q1))]), ((pb E1 4), 39, [vI 0, .int .u64 0]), ((pb E3 8), 96, [.int .u64 (hi (H)), .int .u64 (lo (H))]), ((pb E3 9), 96, [.int .u64 (hi (L)), .int .u64 (lo (L))]), ((pb E4 9), 96, [.int .u64 (hi (n)), .int .u64 (lo (n))]), ((pb E4 10), 96, [.int .u64 (hi (left)), .int .u64 (lo (left))])]) (hs := c_ (ld_ 3 (hrd := by exact rd39 rfl rfl)) <| c_ (cl_ Try.func42 (h := fun env => ⟨_, HO, rfl⟩)) <| c_ (cl_ Try.func65 (h := fun env => ⟨_, (HW (by simpa using h9) hl (by simpa using h13)), rfl⟩)) <| c_ mv_ <| c_ ext_ <| c_ ext_ <| c_ (se_ 3 (hst := by exact fun _ _ _ hc => st39 rfl rfl rfl hc)) <| e_) (k := fun E11 ac wd h_11 => ?_)
  clear h_10
  refine then_n (wp_seq ?_)
  refine rg_ h_11 [[0],[0,1],[2],r_ 4,r_ 5,r_ 6,[0,1,2,3,4,6],[7],[0,1,2,3,4,5,7,8],r_ 10] [K_ (vW d), K_ (vM d), K_ (vM left), K_ (vT2 (vM rr) (.bool (bb))), K_ (vT2 (vM rr) (.bool (bb))), K_ (vM rr), K_ (.bool (bb)), KE_ fun env => vP (pb env 7) 0, none, K_ (.bool (bb))] (fun E12 => [(6, vP (pb E1 3) 0), (7, vP (pb E1 4) 0), (8, vI e), (15, vP (pb E12 7) 0)]) (W := [{ i := 7, T := 96, c0 := [.int .u64 0, .int .u64 0], s := some 8, c1 := fun _ => [.int .u64 (hi (rr)), .int .u64 (lo (rr))] }]) (M' := fun E12 => [((pb E1 0), 39, [vI (hi (a)), .int .u64 (lo (a))]), ((pb E1 1), 39, [vI (hi (b)), .int .u64 (lo (b))]), ((pb E1 2), 39, [vI (hi (d)), .int .u64 (lo (d))]), ((pb E1 3), 39, [vI (hi (q1)), .int .u64 (lo (q1))]), ((pb E1 4), 39, [vI 0, .int .u64 0]), ((pb E3 8), 96, [.int .u64 (hi (H)), .int .u64 (lo (H))]), ((pb E3 9), 96, [.int .u64 (hi (L)), .int .u64 (lo (L))]), ((pb E4 9), 96, [.int .u64 (hi (n)), .int .u64 (lo (n))]), ((pb E4 10), 96, [.int .u64 (hi (left)), .int .u64 (lo (left))]), ((pb E12 7), 96, [.int .u64 (hi (rr)), .int .u64 (lo (rr))])]) (hs := c_ (ld_ 2 (hrd := by exact rd39 rfl rfl)) <| c_ (cl_ Try.func61 (h := fun env => ⟨_, HD, rfl⟩)) <| c_ (ld_ 8 (hrd := by exact rd96 rfl rfl)) <| c_ (cl_ Try.func66 (h := fun env => ⟨_, HLS, rfl⟩)) <| c_ mv_ <| c_ ext_ <| c_ ext_ <| c_ (al_ 9) <| c_ (sw_ 9 7 (hst := by exact fun _ _ _ hc => st96 rfl rfl rfl hc)) <| c_ mv_ <| e_) (k := fun E12 ac wd h_12 => ?_)
  clear h_11
  refine then_n (wp_seq ?_)
  refine rg_ h_12 [[0],[1],[1,2],r_ 4,r_ 5,r_ 6] [K_ (vW q1), K_ (vM rr), K_ (vW rr), none, none, K_ (vI 0)] (fun E13 => [(6, vP (pb E1 3) 0), (7, vP (pb E1 4) 0), (8, vI 0)]) (S := [⟨3, 3, fun _ => [vI (hi (q1)), .int .u64 (lo (q1))]⟩, ⟨4, 4, fun _ => [vI (hi (rr)), .int .u64 (lo (rr))]⟩]) (M' := fun E13 => [((pb E1 0), 39, [vI (hi (a)), .int .u64 (lo (a))]), ((pb E1 1), 39, [vI (hi (b)), .int .u64 (lo (b))]), ((pb E1 2), 39, [vI (hi (d)), .int .u64 (lo (d))]), ((pb E1 3), 39, [vI (hi (q1)), .int .u64 (lo (q1))]), ((pb E1 4), 39, [vI (hi (rr)), .int .u64 (lo (rr))]), ((pb E3 8), 96, [.int .u64 (hi (H)), .int .u64 (lo (H))]), ((pb E3 9), 96, [.int .u64 (hi (L)), .int .u64 (lo (L))]), ((pb E4 9), 96, [.int .u64 (hi (n)), .int .u64 (lo (n))]), ((pb E4 10), 96, [.int .u64 (hi (left)), .int .u64 (lo (left))]), ((pb E12 7), 96, [.int .u64 (hi (rr)), .int .u64 (lo (rr))])]) (hs := c_ (ld_ 3 (hrd := by exact rd39 rfl rfl)) <| c_ (ld_ 9 (hrd := by exact rd96 rfl rfl)) <| c_ (cl_ Try.func63 (h := fun env => ⟨_, (HF2 (by simpa using h9) hl), rfl⟩)) <| c_ (se_ 3 (hst := by exact fun _ _ _ hc => st39 rfl rfl rfl hc)) <| c_ (se_ 4 (hst := by exact fun _ _ _ hc => st39 rfl rfl rfl hc)) <| c_ mv_ <| e_) (k := fun E13 ac wd h_13 => ?_)
  clear h_12
  refine then_n (wp_ret ?_)
  have s6 := h_13.g (t := 6) rfl
  have hc6 := (h_13.st.own 3 _ rfl).2
  have c6_0 := own_cell (o := 0) hc6 rfl
  have c6_1 := own_cell (o := 1) hc6 rfl
  have s7 := h_13.g (t := 7) rfl
  have hc7 := (h_13.st.own 4 _ rfl).2
  have c7_0 := own_cell (o := 0) hc7 rfl
  have c7_1 := own_cell (o := 1) hc7 rfl
  have s8 := h_13.g (t := 8) rfl
  refine leave (v := vT3 (vW q1) (vW rr) (vI 0)) h_13.df (by simp [results, Try.results40, go_sem, Array.getD_eq_getD_getElem?, s6, c6_0, c6_1, Try.underlying39, s7, c7_0, c7_1, Try.underlying39, s8]) ?_
  exact ⟨congrArg Ending.returned (hr4 (by simpa using h9) hl rfl (by simpa using h13)).symm, h_13.st.below⟩
end Go.Proofs.Ytdfkghpgekmmlaa

/- rubber.cut, piece.at, back, label (printed by my walk.py) -/
import Derived.Test.YtdbhgeihphjgeaaC15
import Derived.Test.YtdbhgeihphjgeaaM1
import Derived.IntWalk
namespace Go.Proofs.Ytdbhgeihphjgeaa
open Go.RowKit
set_option linter.unusedVariables false
set_option linter.unusedSimpArgs false
attribute [local go_sem] vN bT bF vW vM vL vT2 vT3 vP vI execOp Act.eval evC hi_zero lo_zero Try.underlying124 Try.underlying53 Try.underlying63 Try.underlying66

abbrev vPc (d b f r e u : Int) : Value := .agg #[vI d, vI (hi b), .int .u64 (lo b), vI (hi f), .int .u64 (lo f), vI (hi dayA), .int .u64 (lo dayA), vI (hi (dayA + r)), .int .u64 (lo (dayA + r)), vI (hi r), .int .u64 (lo r), vI (hi e), .int .u64 (lo e), vI u]
attribute [local go_sem] vPc
theorem congrArg2 {α β γ : Type} (f : α → β → γ) {a a' : α} {b b' : β} (h1 : a = a') (h2 : b = b') : f a b = f a' b' := by rw [h1, h2]
theorem dayA_eq : jn 1 0 0 = dayA := by unfold jn dayA; omega
theorem dayA_pos : 0 < dayA := by unfold dayA; omega
/-- a part of a number, by a share of at most one -/
theorem share {x r L : Int} (hr : 0 ≤ r) (hL : r ≤ L) (h0 : 0 < L) : (0 ≤ x → 0 ≤ x * r / L ∧ x * r / L ≤ x) ∧ (x < 0 → x ≤ x * r / L ∧ x * r / L ≤ 0) := by
  constructor
  · intro hx
    refine ⟨Int.ediv_nonneg (Int.mul_nonneg hx hr) (by omega), ?_⟩
    have h1 : x * r ≤ x * L := Int.mul_le_mul_of_nonneg_left hL hx
    exact Int.ediv_le_of_le_mul h0 h1
  · intro hx
    have h1 : x * L ≤ x * r := Int.mul_le_mul_of_nonpos_left (by omega) hL
    refine ⟨Int.le_ediv_of_mul_le h0 h1, ?_⟩
    have h2 : x * r ≤ 0 := Int.mul_nonpos_of_nonpos_of_nonneg (by omega) hr
    exact Int.ediv_le_of_le_mul h0 (by omega)
theorem share_bd {x r L B : Int} (hr : 0 ≤ r) (hL : r ≤ L) (h0 : 0 < L) (h1 : -B ≤ x) (h2 : x ≤ B) : -B ≤ x * r / L ∧ x * r / L ≤ B := by
  have h := share (x := x) hr hL h0
  rcases Int.lt_or_le x 0 with hx | hx
  · have := h.2 hx; omega
  · have := h.1 hx; omega

set_option maxRecDepth 100000 in
set_option maxHeartbeats 8000000 in
theorem cut_core (d b f r : Int) (hd : -1048576 ≤ d) (hd1 : d ≤ 1048576) (hb : -1000000000 ≤ b) (hb1 : b ≤ 1000000000) (hf : -1048576 ≤ f) (hf1 : f ≤ 1048576) (hr : 0 ≤ r) (hr1 : r ≤ 1000000) : Ret 68 #[.agg #[vI d, vI b, vI f, vI r]] (vPc d (b * 100000000000) (jn f 0 0) (r * 100000000000) 0 0) := by
  intro w0
  have hst := St.start w0 (Θ := fun _ => True) (fun _ _ => trivial)
  refine enter Try.func68 rfl (n := 24) rfl (Nat.le_of_ble_eq_true rfl) hst (L := [(0, .agg #[vI d, vI b, vI f, vI r])]) (lk_args rfl) (fun ac h => ?_)
  refine wp_seq ?_
  refine rg_ h [[0],[1]] [KE_ fun env => vP (pb env 0) 0, KE_ fun env => vP (pb env 1) 0] (fun E1 => [(1, vP (pb E1 0) 0), (2, vP (pb E1 1) 0)]) (W := [{ i := 0, T := 53, c0 := [vI d, vI b, vI f, vI r] }, { i := 1, T := 124, c0 := [vI 0, vI 0, .int .u64 0, vI 0, .int .u64 0, vI 0, .int .u64 0, vI 0, .int .u64 0, vI 0, .int .u64 0, vI 0, .int .u64 0, vI 0] }]) (M' := fun E1 => [((pb E1 0), 53, [vI d, vI b, vI f, vI r]), ((pb E1 1), 124, [vI 0, vI 0, .int .u64 0, vI 0, .int .u64 0, vI 0, .int .u64 0, vI 0, .int .u64 0, vI 0, .int .u64 0, vI 0, .int .u64 0, vI 0])]) (hs := c_ (bx0 0 (.agg #[vI d, vI b, vI f, vI r])) <| c_ (al_ 1) <| e_) (k := fun E1 ac wd h_1 => ?_)
  clear h
  refine then_n (wp_seq ?_)
  refine rg_ h_1 [[0],[0,1],[2],[2,3],[2,3,4],[5],[5,6],[2,3,4,5,6,7],[2,3,4,5,6,7,8],[9],[9,10],[2,3,4,5,6,7,8,9,10,11],r_ 13,[13],r_ 15] [K_ (vP (pb E1 0) 0), K_ (vI d), K_ (vP (pb E1 0) 1), K_ (vI b), K_ (vW (b * 100000000000)), K_ (vP (pb E1 0) 2), K_ (vI f), K_ (vW (jn f 0 0)), K_ (vW dayA), K_ (vP (pb E1 0) 3), K_ (vI r), K_ (vW (r * 100000000000)), K_ (.agg #[vI d, vI (hi (b * 100000000000)), .int .u64 (lo (b * 100000000000)), vI (hi (jn f 0 0)), .int .u64 (lo (jn f 0 0)), vI (hi (dayA)), .int .u64 (lo (dayA)), vI 0, .int .u64 0, vI (hi (r * 100000000000)), .int .u64 (lo (r * 100000000000)), vI 0, .int .u64 0, vI 0]), KE_ fun env => vP (pb env 13) 0, none] (fun E2 => [(2, vP (pb E1 1) 0), (3, vP (pb E2 13) 0)]) (W := [{ i := 13, T := 124, c0 := [vI 0, vI 0, .int .u64 0, vI 0, .int .u64 0, vI 0, .int .u64 0, vI 0, .int .u64 0, vI 0, .int .u64 0, vI 0, .int .u64 0, vI 0], s := some 14, c1 := fun _ => [vI d, vI (hi (b * 100000000000)), .int .u64 (lo (b * 100000000000)), vI (hi (jn f 0 0)), .int .u64 (lo (jn f 0 0)), vI (hi (dayA)), .int .u64 (lo (dayA)), vI 0, .int .u64 0, vI (hi (r * 100000000000)), .int .u64 (lo (r * 100000000000)), vI 0, .int .u64 0, vI 0] }]) (M' := fun E2 => [((pb E1 0), 53, [vI d, vI b, vI f, vI r]), ((pb E1 1), 124, [vI 0, vI 0, .int .u64 0, vI 0, .int .u64 0, vI 0, .int .u64 0, vI 0, .int .u64 0, vI 0, .int .u64 0, vI 0, .int .u64 0, vI 0]), ((pb E2 13), 124, [vI d, vI (hi (b * 100000000000)), .int .u64 (lo (b * 100000000000)), vI (hi (jn f 0 0)), .int .u64 (lo (jn f 0 0)), vI (hi (dayA)), .int .u64 (lo (dayA)), vI 0, .int .u64 0, vI (hi (r * 100000000000)), .int .u64 (lo (r * 100000000000)), vI 0, .int .u64 0, vI 0])]) (hs := c_ (fa0 (vP (pb E1 0) 0)) <| c_ (ld_ 0 (hrd := by exact rd3 rfl)) <| c_ (fa0 (vP (pb E1 0) 0)) <| c_ (ld_ 0 (hrd := by exact rd3 rfl)) <| c_ (cl_ Try.func105 (h := fun env => ⟨_, (times_any b 100000000000 (by unfold In64; omega) (by unfold In64; omega)), rfl⟩)) <| c_ (fa0 (vP (pb E1 0) 0)) <| c_ (ld_ 0 (hrd := by exact rd3 rfl)) <| c_ (cl_ Try.func70 (h := fun env => ⟨_, (begin_any f (by omega) (by omega)), rfl⟩)) <| c_ (cl_ Try.func70 (h := fun env => ⟨_, ((begin_any 1 (by omega) (by omega)).eq (congrArg vW dayA_eq)), rfl⟩)) <| c_ (fa0 (vP (pb E1 0) 0)) <| c_ (ld_ 0 (hrd := by exact rd3 rfl)) <| c_ (cl_ Try.func105 (h := fun env => ⟨_, (times_any r 100000000000 (by unfold In64; omega) (by unfold In64; omega)), rfl⟩)) <| c_ (bd0 ([vI d, vW (b * 100000000000), vW (jn f 0 0), vW dayA, vW (r * 100000000000)])) <| c_ (al_ 2) <| c_ (sw_ 2 13 (hst := by exact fun _ _ _ hc => st124 rfl rfl rfl rfl rfl rfl rfl rfl rfl rfl rfl rfl rfl rfl rfl hc)) <| e_) (k := fun E2 ac wd h_2 => ?_)
  clear h_1
  refine then_n (wp_seq ?_)
  refine rg_ h_2 [[0],[0,1],[2],[2,3],r_ 5,r_ 6,r_ 7] [K_ (vP (pb E2 13) 5), K_ (vW dayA), K_ (vP (pb E2 13) 9), K_ (vW (r * 100000000000)), K_ (vW (dayA + r * 100000000000)), K_ (vP (pb E2 13) 7), none] (fun E3 => [(2, vP (pb E1 1) 0), (3, vP (pb E2 13) 0)]) (S := [⟨2, 6, fun _ => [vI d, vI (hi (b * 100000000000)), .int .u64 (lo (b * 100000000000)), vI (hi (jn f 0 0)), .int .u64 (lo (jn f 0 0)), vI (hi (dayA)), .int .u64 (lo (dayA)), vI (hi (dayA + r * 100000000000)), .int .u64 (lo (dayA + r * 100000000000)), vI (hi (r * 100000000000)), .int .u64 (lo (r * 100000000000)), vI 0, .int .u64 0, vI 0]⟩]) (M' := fun E3 => [((pb E1 0), 53, [vI d, vI b, vI f, vI r]), ((pb E1 1), 124, [vI 0, vI 0, .int .u64 0, vI 0, .int .u64 0, vI 0, .int .u64 0, vI 0, .int .u64 0, vI 0, .int .u64 0, vI 0, .int .u64 0, vI 0]), ((pb E2 13), 124, [vI d, vI (hi (b * 100000000000)), .int .u64 (lo (b * 100000000000)), vI (hi (jn f 0 0)), .int .u64 (lo (jn f 0 0)), vI (hi (dayA)), .int .u64 (lo (dayA)), vI (hi (dayA + r * 100000000000)), .int .u64 (lo (dayA + r * 100000000000)), vI (hi (r * 100000000000)), .int .u64 (lo (r * 100000000000)), vI 0, .int .u64 0, vI 0])]) (hs := c_ (fa0 (vP (pb E2 13) 0)) <| c_ (ld_ 2 (hrd := by exact rd66 rfl rfl)) <| c_ (fa0 (vP (pb E2 13) 0)) <| c_ (ld_ 2 (hrd := by exact rd66 rfl rfl)) <| c_ (cl_ Try.func106 (h := fun env => ⟨_, (plus_any dayA (r * 100000000000) (by unfold InW dayA; omega) (by unfold InW; omega) (by unfold InW dayA; omega)), rfl⟩)) <| c_ (fa0 (vP (pb E2 13) 0)) <| c_ (se_ 2 (hst := by exact fun _ _ _ hc => st66 rfl rfl rfl hc)) <| e_) (k := fun E3 ac wd h_3 => ?_)
  clear h_2
  refine then_n (wp_seq ?_)
  refine rg_ h_3 [[0],[0,1]] [K_ (vPc d (b * 100000000000) (jn f 0 0) (r * 100000000000) 0 0), none] (fun E4 => [(2, vP (pb E1 1) 0)]) (S := [⟨1, 1, fun _ => [vI d, vI (hi (b * 100000000000)), .int .u64 (lo (b * 100000000000)), vI (hi (jn f 0 0)), .int .u64 (lo (jn f 0 0)), vI (hi (dayA)), .int .u64 (lo (dayA)), vI (hi (dayA + r * 100000000000)), .int .u64 (lo (dayA + r * 100000000000)), vI (hi (r * 100000000000)), .int .u64 (lo (r * 100000000000)), vI 0, .int .u64 0, vI 0]⟩]) (M' := fun E4 => [((pb E1 0), 53, [vI d, vI b, vI f, vI r]), ((pb E1 1), 124, [vI d, vI (hi (b * 100000000000)), .int .u64 (lo (b * 100000000000)), vI (hi (jn f 0 0)), .int .u64 (lo (jn f 0 0)), vI (hi (dayA)), .int .u64 (lo (dayA)), vI (hi (dayA + r * 100000000000)), .int .u64 (lo (dayA + r * 100000000000)), vI (hi (r * 100000000000)), .int .u64 (lo (r * 100000000000)), vI 0, .int .u64 0, vI 0]), ((pb E2 13), 124, [vI d, vI (hi (b * 100000000000)), .int .u64 (lo (b * 100000000000)), vI (hi (jn f 0 0)), .int .u64 (lo (jn f 0 0)), vI (hi (dayA)), .int .u64 (lo (dayA)), vI (hi (dayA + r * 100000000000)), .int .u64 (lo (dayA + r * 100000000000)), vI (hi (r * 100000000000)), .int .u64 (lo (r * 100000000000)), vI 0, .int .u64 0, vI 0])]) (hs := c_ (ld_ 2 (hrd := by exact rd124 rfl rfl rfl rfl rfl rfl rfl rfl rfl rfl rfl rfl rfl rfl)) <| c_ (se_ 1 (hst := by exact fun _ _ _ hc => st124 rfl rfl rfl rfl rfl rfl rfl rfl rfl rfl rfl rfl rfl rfl rfl hc)) <| e_) (k := fun E4 ac wd h_4 => ?_)
  clear h_3
  refine then_n (wp_ret ?_)
  have s2 := h_4.g (t := 2) rfl
  have hc2 := (h_4.st.own 1 _ rfl).2
  have c2_0 := own_cell (o := 0) hc2 rfl
  have c2_1 := own_cell (o := 1) hc2 rfl
  have c2_2 := own_cell (o := 2) hc2 rfl
  have c2_3 := own_cell (o := 3) hc2 rfl
  have c2_4 := own_cell (o := 4) hc2 rfl
  have c2_5 := own_cell (o := 5) hc2 rfl
  have c2_6 := own_cell (o := 6) hc2 rfl
  have c2_7 := own_cell (o := 7) hc2 rfl
  have c2_8 := own_cell (o := 8) hc2 rfl
  have c2_9 := own_cell (o := 9) hc2 rfl
  have c2_10 := own_cell (o := 10) hc2 rfl
  have c2_11 := own_cell (o := 11) hc2 rfl
  have c2_12 := own_cell (o := 12) hc2 rfl
  have c2_13 := own_cell (o := 13) hc2 rfl
  refine leave (v := vPc d (b * 100000000000) (jn f 0 0) (r * 100000000000) 0 0) h_4.df (by simp [results, Try.results68, go_sem, Array.getD_eq_getD_getElem?, s2, c2_0, c2_1, c2_2, c2_3, c2_4, c2_5, c2_6, c2_7, c2_8, c2_9, c2_10, c2_11, c2_12, c2_13, Try.underlying124]) ?_
  exact ⟨rfl, h_4.st.below⟩
/-- a piece's numbers: base, from, rate -/
def PcOk (b f r : Int) : Prop := (-100000000000000000000 ≤ b ∧ b ≤ 100000000000000000000) ∧ (-100000000000000000000000000000 ≤ f ∧ f ≤ 100000000000000000000000000000) ∧ 0 ≤ r ∧ r ≤ 100000000000000000
/-- an instant, or a count, that is not far -/
def Near (u : Int) : Prop := -1000000000000000000000000000000 ≤ u ∧ u ≤ 1000000000000000000000000000000
theorem PcOk.rd {b f r : Int} (h : PcOk b f r) : r ≤ dayA := by unfold PcOk at h; unfold dayA; omega
theorem gain_bd {b f r u : Int} (h : PcOk b f r) (hu : Near u) : -2000000000000000000000000000000 ≤ (u - f) * r / dayA ∧ (u - f) * r / dayA ≤ 2000000000000000000000000000000 := by
  have := share_bd (x := u - f) (B := 2000000000000000000000000000000) h.2.2.1 h.rd dayA_pos (by unfold PcOk at h; unfold Near at hu; omega) (by unfold PcOk at h; unfold Near at hu; omega)
  exact this
set_option maxRecDepth 100000 in
set_option maxHeartbeats 8000000 in
theorem pat_core (d b f r e t u : Int) (hp : PcOk b f r) (hu : Near u) : Ret 69 #[vPc d b f r e t, vW u] (vW (u + b + (u - f) * r / dayA)) := by
  have hg := gain_bd hp hu
  unfold PcOk at hp
  unfold Near at hu
  have hd0 := dayA_pos
  have hd1 : dayA = 86400000000000000000000 := rfl
  intro w0
  have hst := St.start w0 (Θ := fun _ => True) (fun _ _ => trivial)
  refine enter Try.func69 rfl (n := 27) rfl (Nat.le_of_ble_eq_true rfl) hst (L := [(0, vPc d b f r e t), (1, vW u)]) (lk_args rfl) (fun ac h => ?_)
  refine wp_seq ?_
  refine rg_ h [[0],[1],[2]] [KE_ fun env => vP (pb env 0) 0, KE_ fun env => vP (pb env 1) 0, KE_ fun env => vP (pb env 2) 0] (fun E1 => [(2, vP (pb E1 0) 0), (3, vP (pb E1 1) 0), (4, vP (pb E1 2) 0)]) (W := [{ i := 0, T := 124, c0 := [vI d, vI (hi (b)), .int .u64 (lo (b)), vI (hi (f)), .int .u64 (lo (f)), vI (hi (dayA)), .int .u64 (lo (dayA)), vI (hi (dayA + r)), .int .u64 (lo (dayA + r)), vI (hi (r)), .int .u64 (lo (r)), vI (hi (e)), .int .u64 (lo (e)), vI t] }, { i := 1, T := 66, c0 := [vI (hi (u)), .int .u64 (lo (u))] }, { i := 2, T := 66, c0 := [vI 0, .int .u64 0] }]) (M' := fun E1 => [((pb E1 0), 124, [vI d, vI (hi (b)), .int .u64 (lo (b)), vI (hi (f)), .int .u64 (lo (f)), vI (hi (dayA)), .int .u64 (lo (dayA)), vI (hi (dayA + r)), .int .u64 (lo (dayA + r)), vI (hi (r)), .int .u64 (lo (r)), vI (hi (e)), .int .u64 (lo (e)), vI t]), ((pb E1 1), 66, [vI (hi (u)), .int .u64 (lo (u))]), ((pb E1 2), 66, [vI 0, .int .u64 0])]) (hs := c_ (bx0 0 (vPc d b f r e t)) <| c_ (bx0 1 (vW u)) <| c_ (al_ 2) <| e_) (k := fun E1 ac wd h_1 => ?_)
  clear h
  refine then_n (wp_seq ?_)
  refine rg_ h_1 [[0],[1],[1,2],r_ 4,[4],[4,5],[6],[6,7],r_ 9,r_ 10,r_ 11,[0,1,2,3,4,5,6,7,8,9,11],[0,1,2,3,4,5,6,7,8,9,12],[13],[14],[0,1,2,3,4,5,6,7,8,9,10,13,14,15],[0,1,2,3,4,5,6,7,8,9,10,11,13,14,15,16],r_ 18] [K_ (vW u), K_ (vP (pb E1 0) 3), K_ (vW f), K_ (vW (u - f)), K_ (vP (pb E1 0) 9), K_ (vW r), K_ (vP (pb E1 0) 5), K_ (vW dayA), K_ (vT3 (vW ((u - f) * r / dayA)) (vW ((u - f) * r % dayA)) (vI 0)), K_ (vT3 (vW ((u - f) * r / dayA)) (vW ((u - f) * r % dayA)) (vI 0)), K_ (vW ((u - f) * r / dayA)), K_ (vW ((u - f) * r % dayA)), K_ (vI 0), KE_ fun env => vP (pb env 13) 0, KE_ fun env => vP (pb env 14) 0, none, none, K_ (vI 0)] (fun E2 => [(2, vP (pb E1 0) 0), (3, vP (pb E1 1) 0), (4, vP (pb E1 2) 0), (5, vP (pb E2 13) 0)]) (W := [{ i := 13, T := 66, c0 := [vI 0, .int .u64 0], s := some 15, c1 := fun _ => [vI (hi ((u - f) * r / dayA)), .int .u64 (lo ((u - f) * r / dayA))] }, { i := 14, T := 66, c0 := [vI 0, .int .u64 0], s := some 16, c1 := fun _ => [vI (hi ((u - f) * r % dayA)), .int .u64 (lo ((u - f) * r % dayA))] }]) (M' := fun E2 => [((pb E1 0), 124, [vI d, vI (hi (b)), .int .u64 (lo (b)), vI (hi (f)), .int .u64 (lo (f)), vI (hi (dayA)), .int .u64 (lo (dayA)), vI (hi (dayA + r)), .int .u64 (lo (dayA + r)), vI (hi (r)), .int .u64 (lo (r)), vI (hi (e)), .int .u64 (lo (e)), vI t]), ((pb E1 1), 66, [vI (hi (u)), .int .u64 (lo (u))]), ((pb E1 2), 66, [vI 0, .int .u64 0]), ((pb E2 13), 66, [vI (hi ((u - f) * r / dayA)), .int .u64 (lo ((u - f) * r / dayA))]), ((pb E2 14), 66, [vI (hi ((u - f) * r % dayA)), .int .u64 (lo ((u - f) * r % dayA))])]) (hs := c_ (ld_ 1 (hrd := by exact rd66 rfl rfl)) <| c_ (fa0 (vP (pb E1 0) 0)) <| c_ (ld_ 0 (hrd := by exact rd66 rfl rfl)) <| c_ (cl_ Try.func108 (h := fun env => ⟨_, (less_any u f (by unfold InW; omega) (by unfold InW; omega) (by unfold InW; omega)), rfl⟩)) <| c_ (fa0 (vP (pb E1 0) 0)) <| c_ (ld_ 0 (hrd := by exact rd66 rfl rfl)) <| c_ (fa0 (vP (pb E1 0) 0)) <| c_ (ld_ 0 (hrd := by exact rd66 rfl rfl)) <| c_ (cl_ Try.func107 (h := fun env => ⟨_, (wmuldiv_fits (u - f) r dayA (by unfold InW; omega) (by unfold InW; omega) (by unfold InW; omega) (by omega) (by unfold InW; omega)), rfl⟩)) <| c_ mv_ <| c_ ext_ <| c_ ext_ <| c_ ext_ <| c_ (al_ 3) <| c_ (al_ 4) <| c_ (sw_ 3 13 (hst := by exact fun _ _ _ hc => st66 rfl rfl rfl hc)) <| c_ (sw_ 4 14 (hst := by exact fun _ _ _ hc => st66 rfl rfl rfl hc)) <| c_ mv_ <| e_) (k := fun E2 ac wd h_2 => ?_)
  clear h_1
  refine then_n (wp_seq ?_)
  refine rg_ h_2 [[0],[1],[1,2],r_ 4,[4],r_ 6,r_ 7] [K_ (vW u), K_ (vP (pb E1 0) 1), K_ (vW b), K_ (vW (u + b)), K_ (vW ((u - f) * r / dayA)), K_ (vW (u + b + (u - f) * r / dayA)), none] (fun E3 => [(4, vP (pb E1 2) 0)]) (S := [⟨2, 6, fun _ => [vI (hi (u + b + (u - f) * r / dayA)), .int .u64 (lo (u + b + (u - f) * r / dayA))]⟩]) (M' := fun E3 => [((pb E1 0), 124, [vI d, vI (hi (b)), .int .u64 (lo (b)), vI (hi (f)), .int .u64 (lo (f)), vI (hi (dayA)), .int .u64 (lo (dayA)), vI (hi (dayA + r)), .int .u64 (lo (dayA + r)), vI (hi (r)), .int .u64 (lo (r)), vI (hi (e)), .int .u64 (lo (e)), vI t]), ((pb E1 1), 66, [vI (hi (u)), .int .u64 (lo (u))]), ((pb E1 2), 66, [vI (hi (u + b + (u - f) * r / dayA)), .int .u64 (lo (u + b + (u - f) * r / dayA))]), ((pb E2 13), 66, [vI (hi ((u - f) * r / dayA)), .int .u64 (lo ((u - f) * r / dayA))]), ((pb E2 14), 66, [vI (hi ((u - f) * r % dayA)), .int .u64 (lo ((u - f) * r % dayA))])]) (hs := c_ (ld_ 1 (hrd := by exact rd66 rfl rfl)) <| c_ (fa0 (vP (pb E1 0) 0)) <| c_ (ld_ 0 (hrd := by exact rd66 rfl rfl)) <| c_ (cl_ Try.func106 (h := fun env => ⟨_, (plus_any u b (by unfold InW; omega) (by unfold InW; omega) (by unfold InW; omega)), rfl⟩)) <| c_ (ld_ 3 (hrd := by exact rd66 rfl rfl)) <| c_ (cl_ Try.func106 (h := fun env => ⟨_, (plus_any (u + b) ((u - f) * r / dayA) (by unfold InW; omega) (by unfold InW; omega) (by unfold InW; omega)), rfl⟩)) <| c_ (se_ 2 (hst := by exact fun _ _ _ hc => st66 rfl rfl rfl hc)) <| e_) (k := fun E3 ac wd h_3 => ?_)
  clear h_2
  refine then_n (wp_ret ?_)
  have s4 := h_3.g (t := 4) rfl
  have hc4 := (h_3.st.own 2 _ rfl).2
  have c4_0 := own_cell (o := 0) hc4 rfl
  have c4_1 := own_cell (o := 1) hc4 rfl
  refine leave (v := vW (u + b + (u - f) * r / dayA)) h_3.df (by simp [results, Try.results69, go_sem, Array.getD_eq_getD_getElem?, s4, c4_0, c4_1, Try.underlying66]) ?_
  exact ⟨rfl, h_3.st.below⟩
theorem pat_any (d b f r e t u : Int) (hp : PcOk b f r) (hu : Near u) : Ret 69 #[vPc d b f r e t, vW u] (vW (fA b f r u)) := pat_core d b f r e t u hp hu
set_option maxRecDepth 100000 in
set_option maxHeartbeats 8000000 in
theorem back_core (d b f r e u t q rm res : Int) (hp : PcOk b f r) (ht : Near t) (hq0 : -4000000000000000000000000000000 ≤ q) (hq1 : q ≤ 4000000000000000000000000000000) (hres : res = if rm = 0 then q - 1 + f else q + f) (HM : Ret 107 #[vW (t - b - f + 1), vW dayA, vW (dayA + r)] (vT3 (vW q) (vW rm) (vI 0))) : Ret 85 #[vPc d b f r e u, vW t] (vW res) := by
  unfold PcOk at hp
  unfold Near at ht
  intro w0
  have hst := St.start w0 (Θ := fun _ => True) (fun _ _ => trivial)
  refine enter Try.func85 rfl (n := 38) rfl (Nat.le_of_ble_eq_true rfl) hst (L := [(0, vPc d b f r e u), (1, vW t)]) (lk_args rfl) (fun ac h => ?_)
  refine wp_seq ?_
  refine rg_ h [[0],[1],[2]] [KE_ fun env => vP (pb env 0) 0, KE_ fun env => vP (pb env 1) 0, KE_ fun env => vP (pb env 2) 0] (fun E1 => [(2, vP (pb E1 0) 0), (3, vP (pb E1 1) 0), (4, vP (pb E1 2) 0)]) (W := [{ i := 0, T := 124, c0 := [vI d, vI (hi (b)), .int .u64 (lo (b)), vI (hi (f)), .int .u64 (lo (f)), vI (hi (dayA)), .int .u64 (lo (dayA)), vI (hi (dayA + r)), .int .u64 (lo (dayA + r)), vI (hi (r)), .int .u64 (lo (r)), vI (hi (e)), .int .u64 (lo (e)), vI u] }, { i := 1, T := 66, c0 := [vI (hi (t)), .int .u64 (lo (t))] }, { i := 2, T := 66, c0 := [vI 0, .int .u64 0] }]) (M' := fun E1 => [((pb E1 0), 124, [vI d, vI (hi (b)), .int .u64 (lo (b)), vI (hi (f)), .int .u64 (lo (f)), vI (hi (dayA)), .int .u64 (lo (dayA)), vI (hi (dayA + r)), .int .u64 (lo (dayA + r)), vI (hi (r)), .int .u64 (lo (r)), vI (hi (e)), .int .u64 (lo (e)), vI u]), ((pb E1 1), 66, [vI (hi (t)), .int .u64 (lo (t))]), ((pb E1 2), 66, [vI 0, .int .u64 0])]) (hs := c_ (bx0 0 (vPc d b f r e u)) <| c_ (bx0 1 (vW t)) <| c_ (al_ 2) <| e_) (k := fun E1 ac wd h_1 => ?_)
  clear h
  refine then_n (wp_seq ?_)
  refine rg_ h_1 [[0],[1],[1,2],r_ 4,[4],[4,5],r_ 7,[7],r_ 9] [K_ (vW t), K_ (vP (pb E1 0) 1), K_ (vW b), K_ (vW (t - b)), K_ (vP (pb E1 0) 3), K_ (vW f), K_ (vW (t - b - f)), KE_ fun env => vP (pb env 7) 0, none] (fun E2 => [(2, vP (pb E1 0) 0), (4, vP (pb E1 2) 0), (5, vP (pb E2 7) 0)]) (W := [{ i := 7, T := 66, c0 := [vI 0, .int .u64 0], s := some 8, c1 := fun _ => [vI (hi (t - b - f)), .int .u64 (lo (t - b - f))] }]) (M' := fun E2 => [((pb E1 0), 124, [vI d, vI (hi (b)), .int .u64 (lo (b)), vI (hi (f)), .int .u64 (lo (f)), vI (hi (dayA)), .int .u64 (lo (dayA)), vI (hi (dayA + r)), .int .u64 (lo (dayA + r)), vI (hi (r)), .int .u64 (lo (r)), vI (hi (e)), .int .u64 (lo (e)), vI u]), ((pb E1 1), 66, [vI (hi (t)), .int .u64 (lo (t))]), ((pb E1 2), 66, [vI 0, .int .u64 0]), ((pb E2 7), 66, [vI (hi (t - b - f)), .int .u64 (lo (t - b - f))])]) (hs := c_ (ld_ 1 (hrd := by exact rd66 rfl rfl)) <| c_ (fa0 (vP (pb E1 0) 0)) <| c_ (ld_ 0 (hrd := by exact rd66 rfl rfl)) <| c_ (cl_ Try.func108 (h := fun env => ⟨_, (less_any t b (by unfold InW; omega) (by unfold InW; omega) (by unfold InW; omega)), rfl⟩)) <| c_ (fa0 (vP (pb E1 0) 0)) <| c_ (ld_ 0 (hrd := by exact rd66 rfl rfl)) <| c_ (cl_ Try.func108 (h := fun env => ⟨_, (less_any (t - b) f (by unfold InW; omega) (by unfold InW; omega) (by unfold InW; omega)), rfl⟩)) <| c_ (al_ 3) <| c_ (sw_ 3 7 (hst := by exact fun _ _ _ hc => st66 rfl rfl rfl hc)) <| e_) (k := fun E2 ac wd h_2 => ?_)
  clear h_1
  refine then_n (wp_seq ?_)
  refine rg_ h_2 [[0],[1],[0,1,2],[3],[3,4],[5],[5,6],r_ 8,r_ 9,r_ 10,[0,1,2,3,4,5,6,7,8,10],[0,1,2,3,4,5,6,7,8,11],[12],[13],[0,1,2,3,4,5,6,7,8,9,12,13,14],[0,1,2,3,4,5,6,7,8,9,10,12,13,14,15],r_ 17] [K_ (vW (t - b - f)), K_ (vW 1), K_ (vW (t - b - f + 1)), K_ (vP (pb E1 0) 5), K_ (vW dayA), K_ (vP (pb E1 0) 7), K_ (vW (dayA + r)), K_ (vT3 (vW q) (vW rm) (vI 0)), K_ (vT3 (vW q) (vW rm) (vI 0)), K_ (vW q), K_ (vW rm), K_ (vI 0), KE_ fun env => vP (pb env 12) 0, KE_ fun env => vP (pb env 13) 0, none, none, K_ (vI 0)] (fun E3 => [(2, vP (pb E1 0) 0), (4, vP (pb E1 2) 0), (6, vP (pb E3 12) 0), (7, vP (pb E3 13) 0)]) (W := [{ i := 12, T := 66, c0 := [vI 0, .int .u64 0], s := some 14, c1 := fun _ => [vI (hi (q)), .int .u64 (lo (q))] }, { i := 13, T := 66, c0 := [vI 0, .int .u64 0], s := some 15, c1 := fun _ => [vI (hi (rm)), .int .u64 (lo (rm))] }]) (M' := fun E3 => [((pb E1 0), 124, [vI d, vI (hi (b)), .int .u64 (lo (b)), vI (hi (f)), .int .u64 (lo (f)), vI (hi (dayA)), .int .u64 (lo (dayA)), vI (hi (dayA + r)), .int .u64 (lo (dayA + r)), vI (hi (r)), .int .u64 (lo (r)), vI (hi (e)), .int .u64 (lo (e)), vI u]), ((pb E1 1), 66, [vI (hi (t)), .int .u64 (lo (t))]), ((pb E1 2), 66, [vI 0, .int .u64 0]), ((pb E2 7), 66, [vI (hi (t - b - f)), .int .u64 (lo (t - b - f))]), ((pb E3 12), 66, [vI (hi (q)), .int .u64 (lo (q))]), ((pb E3 13), 66, [vI (hi (rm)), .int .u64 (lo (rm))])]) (hs := c_ (ld_ 3 (hrd := by exact rd66 rfl rfl)) <| c_ (cl_ Try.func93 (h := fun env => ⟨_, (of_any 1 (by omega) (by omega)), rfl⟩)) <| c_ (cl_ Try.func106 (h := fun env => ⟨_, (plus_any (t - b - f) 1 (by unfold InW; omega) (by unfold InW; omega) (by unfold InW; omega)), rfl⟩)) <| c_ (fa0 (vP (pb E1 0) 0)) <| c_ (ld_ 0 (hrd := by exact rd66 rfl rfl)) <| c_ (fa0 (vP (pb E1 0) 0)) <| c_ (ld_ 0 (hrd := by exact rd66 rfl rfl)) <| c_ (cl_ Try.func107 (h := fun env => ⟨_, HM, rfl⟩)) <| c_ mv_ <| c_ ext_ <| c_ ext_ <| c_ ext_ <| c_ (al_ 4) <| c_ (al_ 5) <| c_ (sw_ 4 12 (hst := by exact fun _ _ _ hc => st66 rfl rfl rfl hc)) <| c_ (sw_ 5 13 (hst := by exact fun _ _ _ hc => st66 rfl rfl rfl hc)) <| c_ mv_ <| e_) (k := fun E3 ac wd h_3 => ?_)
  clear h_2
  refine then_n (wp_seq (wp_seq ?_))
  by_cases hz : rm = 0
  have hz2 := hz
  refine rg_ h_3 [[0],[1],[0,1,2]] [K_ (vW rm), K_ (.agg #[vI 0, .int .u64 0]), K_ bT] (fun E4 => [(2, vP (pb E1 0) 0), (4, vP (pb E1 2) 0), (6, vP (pb E3 12) 0), (30, bT)]) (hs := c_ (ld_ 5 (hrd := by exact rd66 rfl rfl)) <| c_ (bd0 ([])) <| c_ (bi0 (vW rm) (.agg #[vI 0, .int .u64 0]) (h := by intro env w; simp [go_sem, hz, hi_zero, lo_zero])) <| e_) (k := fun E4 ac wd h_4 => ?_)
  clear h_3
  refine then_n ?_
  refine wp_cond_true (eval_tmp (h_4.g (t := 30) rfl)) ?_
  refine rg_ h_4 [[0],[1],[0,1,2],r_ 4] [K_ (vW q), K_ (vW 1), K_ (vW (q - 1)), none] (fun E5 => [(2, vP (pb E1 0) 0), (4, vP (pb E1 2) 0), (6, vP (pb E3 12) 0)]) (S := [⟨4, 3, fun _ => [vI (hi (q - 1)), .int .u64 (lo (q - 1))]⟩]) (M' := fun E5 => [((pb E1 0), 124, [vI d, vI (hi (b)), .int .u64 (lo (b)), vI (hi (f)), .int .u64 (lo (f)), vI (hi (dayA)), .int .u64 (lo (dayA)), vI (hi (dayA + r)), .int .u64 (lo (dayA + r)), vI (hi (r)), .int .u64 (lo (r)), vI (hi (e)), .int .u64 (lo (e)), vI u]), ((pb E1 1), 66, [vI (hi (t)), .int .u64 (lo (t))]), ((pb E1 2), 66, [vI 0, .int .u64 0]), ((pb E2 7), 66, [vI (hi (t - b - f)), .int .u64 (lo (t - b - f))]), ((pb E3 12), 66, [vI (hi (q - 1)), .int .u64 (lo (q - 1))]), ((pb E3 13), 66, [vI (hi (rm)), .int .u64 (lo (rm))])]) (hs := c_ (ld_ 4 (hrd := by exact rd66 rfl rfl)) <| c_ (cl_ Try.func93 (h := fun env => ⟨_, (of_any 1 (by omega) (by omega)), rfl⟩)) <| c_ (cl_ Try.func108 (h := fun env => ⟨_, (less_any q 1 (by unfold InW; omega) (by unfold InW; omega) (by unfold InW; omega)), rfl⟩)) <| c_ (se_ 4 (hst := by exact fun _ _ _ hc => st66 rfl rfl rfl hc)) <| e_) (k := fun E5 ac wd h_5 => ?_)
  clear h_4
  refine then_n (wp_seq ?_)
  refine rg_ h_5 [[0],[1],[1,2],r_ 4,r_ 5] [K_ (vW (q - 1)), K_ (vP (pb E1 0) 3), K_ (vW f), K_ (vW (q - 1 + f)), none] (fun E6 => [(4, vP (pb E1 2) 0)]) (S := [⟨2, 4, fun _ => [vI (hi (q - 1 + f)), .int .u64 (lo (q - 1 + f))]⟩]) (M' := fun E6 => [((pb E1 0), 124, [vI d, vI (hi (b)), .int .u64 (lo (b)), vI (hi (f)), .int .u64 (lo (f)), vI (hi (dayA)), .int .u64 (lo (dayA)), vI (hi (dayA + r)), .int .u64 (lo (dayA + r)), vI (hi (r)), .int .u64 (lo (r)), vI (hi (e)), .int .u64 (lo (e)), vI u]), ((pb E1 1), 66, [vI (hi (t)), .int .u64 (lo (t))]), ((pb E1 2), 66, [vI (hi (q - 1 + f)), .int .u64 (lo (q - 1 + f))]), ((pb E2 7), 66, [vI (hi (t - b - f)), .int .u64 (lo (t - b - f))]), ((pb E3 12), 66, [vI (hi (q - 1)), .int .u64 (lo (q - 1))]), ((pb E3 13), 66, [vI (hi (rm)), .int .u64 (lo (rm))])]) (hs := c_ (ld_ 4 (hrd := by exact rd66 rfl rfl)) <| c_ (fa0 (vP (pb E1 0) 0)) <| c_ (ld_ 0 (hrd := by exact rd66 rfl rfl)) <| c_ (cl_ Try.func106 (h := fun env => ⟨_, (plus_any (q - 1) f (by unfold InW; omega) (by unfold InW; omega) (by unfold InW; omega)), rfl⟩)) <| c_ (se_ 2 (hst := by exact fun _ _ _ hc => st66 rfl rfl rfl hc)) <| e_) (k := fun E6 ac wd h_6 => ?_)
  clear h_5
  refine then_n (wp_ret ?_)
  have s4 := h_6.g (t := 4) rfl
  have hc4 := (h_6.st.own 2 _ rfl).2
  have c4_0 := own_cell (o := 0) hc4 rfl
  have c4_1 := own_cell (o := 1) hc4 rfl
  refine leave (v := vW (q - 1 + f)) h_6.df (by simp [results, Try.results85, go_sem, Array.getD_eq_getD_getElem?, s4, c4_0, c4_1, Try.underlying66]) ?_
  exact ⟨by rw [hres, if_pos hz], h_6.st.below⟩
  have hne := hilo0 hz
  refine rg_ h_3 [[0],[1],[0,1,2]] [K_ (vW rm), K_ (.agg #[vI 0, .int .u64 0]), K_ bF] (fun E4 => [(2, vP (pb E1 0) 0), (4, vP (pb E1 2) 0), (6, vP (pb E3 12) 0), (30, bF)]) (hs := c_ (ld_ 5 (hrd := by exact rd66 rfl rfl)) <| c_ (bd0 ([])) <| c_ (bi0 (vW rm) (.agg #[vI 0, .int .u64 0]) (h := by intro env w; (first | (simp [go_sem]; done) | (simp [go_sem]; exact fun g1 g2 => hne ⟨g1, g2⟩)))) <| e_) (k := fun E4 ac wd h_4 => ?_)
  clear h_3
  refine then_n ?_
  refine wp_cond_false (eval_tmp (h_4.g (t := 30) rfl)) ?_
  refine wp_skip (then_n (wp_seq ?_))
  refine rg_ h_4 [[0],[1],[1,2],r_ 4,r_ 5] [K_ (vW q), K_ (vP (pb E1 0) 3), K_ (vW f), K_ (vW (q + f)), none] (fun E5 => [(4, vP (pb E1 2) 0)]) (S := [⟨2, 4, fun _ => [vI (hi (q + f)), .int .u64 (lo (q + f))]⟩]) (M' := fun E5 => [((pb E1 0), 124, [vI d, vI (hi (b)), .int .u64 (lo (b)), vI (hi (f)), .int .u64 (lo (f)), vI (hi (dayA)), .int .u64 (lo (dayA)), vI (hi (dayA + r)), .int .u64 (lo (dayA + r)), vI (hi (r)), .int .u64 (lo (r)), vI (hi (e)), .int .u64 (lo (e)), vI u]), ((pb E1 1), 66, [vI (hi (t)), .int .u64 (lo (t))]), ((pb E1 2), 66, [vI (hi (q + f)), .int .u64 (lo (q + f))]), ((pb E2 7), 66, [vI (hi (t - b - f)), .int .u64 (lo (t - b - f))]), ((pb E3 12), 66, [vI (hi (q)), .int .u64 (lo (q))]), ((pb E3 13), 66, [vI (hi (rm)), .int .u64 (lo (rm))])]) (hs := c_ (ld_ 4 (hrd := by exact rd66 rfl rfl)) <| c_ (fa0 (vP (pb E1 0) 0)) <| c_ (ld_ 0 (hrd := by exact rd66 rfl rfl)) <| c_ (cl_ Try.func106 (h := fun env => ⟨_, (plus_any q f (by unfold InW; omega) (by unfold InW; omega) (by unfold InW; omega)), rfl⟩)) <| c_ (se_ 2 (hst := by exact fun _ _ _ hc => st66 rfl rfl rfl hc)) <| e_) (k := fun E5 ac wd h_5 => ?_)
  clear h_4
  refine then_n (wp_ret ?_)
  have s4 := h_5.g (t := 4) rfl
  have hc4 := (h_5.st.own 2 _ rfl).2
  have c4_0 := own_cell (o := 0) hc4 rfl
  have c4_1 := own_cell (o := 1) hc4 rfl
  refine leave (v := vW (q + f)) h_5.df (by simp [results, Try.results85, go_sem, Array.getD_eq_getD_getElem?, s4, c4_0, c4_1, Try.underlying66]) ?_
  exact ⟨by rw [hres, if_neg hz], h_5.st.below⟩
theorem back_any (d b f r e u t : Int) (hp : PcOk b f r) (ht : Near t) : Ret 85 #[vPc d b f r e u, vW t] (vW (gA b f r t)) := by
  have hL : 0 < dayA + r := by have := dayA_pos; unfold PcOk at hp; omega
  have hb := share_bd (x := t - b - f + 1) (r := dayA) (L := dayA + r) (B := 3000000000000000000000000000000) (Int.le_of_lt dayA_pos) (by unfold PcOk at hp; omega) hL (by unfold PcOk at hp; unfold Near at ht; omega) (by unfold PcOk at hp; unfold Near at ht; omega)
  refine back_core d b f r e u t _ _ _ hp ht (by omega) (by omega) ?_ (wmuldiv_fits (t - b - f + 1) dayA (dayA + r) (by unfold PcOk at hp; unfold Near at ht; unfold InW; omega) (by unfold InW dayA; omega) (by unfold PcOk at hp; unfold InW dayA; omega) hL (by unfold InW; omega))
  unfold gA topq
  split <;> rfl
/-- the label of a count, by days of 86400 seconds -/
def splD (u : Int) : Int := u / 1000000000000000000 / 86400
def splS (u : Int) : Int := u / 1000000000000000000 % 86400
def splA (u : Int) : Int := u % 1000000000000000000
theorem spl_jn {d s a : Int} (hs : 0 ≤ s) (hs1 : s < 86400) (ha : 0 ≤ a) (ha1 : a < 1000000000000000000) : splD (jn d s a) = d ∧ splS (jn d s a) = s ∧ splA (jn d s a) = a := by
  unfold jn splD splS splA; omega
theorem jn_spl (u : Int) : jn (splD u) (splS u) (splA u) = u := by unfold jn splD splS splA; omega
theorem spl_in (u : Int) : 0 ≤ splS u ∧ splS u < 86400 ∧ 0 ≤ splA u ∧ splA u < 1000000000000000000 := by unfold splS splA; omega

set_option maxRecDepth 100000 in
set_option maxHeartbeats 8000000 in
theorem plabel_core (d b f r e t u dd ss aa : Int) (res : Value) (hu : Near u) (h1 : u / 1000000000000000000 / 86400 = dd) (h2 : u / 1000000000000000000 % 86400 = ss) (h3 : u % 1000000000000000000 = aa) (hres : res = if t ≤ dd then vL (dd - 1) (ss + 86400) aa else vL dd ss aa) : Ret 84 #[vPc d b f r e t, vW u] (res) := by
  unfold Near at hu
  have i1 : IntKind.i64.wrap (dd - 1) = dd - 1 := IntWalk.i64_in _ (by omega)
  have i2 : IntKind.i64.wrap (ss + 86400) = ss + 86400 := IntWalk.i64_in _ (by omega)
  intro w0
  have hst := St.start w0 (Θ := fun _ => True) (fun _ _ => trivial)
  refine enter Try.func84 rfl (n := 58) rfl (Nat.le_of_ble_eq_true rfl) hst (L := [(0, vPc d b f r e t), (1, vW u)]) (lk_args rfl) (fun ac h => ?_)
  refine wp_seq ?_
  refine rg_ h [[0],[1],[2]] [KE_ fun env => vP (pb env 0) 0, KE_ fun env => vP (pb env 1) 0, KE_ fun env => vP (pb env 2) 0] (fun E1 => [(2, vP (pb E1 0) 0), (3, vP (pb E1 1) 0), (4, vP (pb E1 2) 0)]) (W := [{ i := 0, T := 124, c0 := [vI d, vI (hi (b)), .int .u64 (lo (b)), vI (hi (f)), .int .u64 (lo (f)), vI (hi (dayA)), .int .u64 (lo (dayA)), vI (hi (dayA + r)), .int .u64 (lo (dayA + r)), vI (hi (r)), .int .u64 (lo (r)), vI (hi (e)), .int .u64 (lo (e)), vI t] }, { i := 1, T := 66, c0 := [vI (hi (u)), .int .u64 (lo (u))] }, { i := 2, T := 63, c0 := [vI 0, vI 0, vI 0] }]) (M' := fun E1 => [((pb E1 0), 124, [vI d, vI (hi (b)), .int .u64 (lo (b)), vI (hi (f)), .int .u64 (lo (f)), vI (hi (dayA)), .int .u64 (lo (dayA)), vI (hi (dayA + r)), .int .u64 (lo (dayA + r)), vI (hi (r)), .int .u64 (lo (r)), vI (hi (e)), .int .u64 (lo (e)), vI t]), ((pb E1 1), 66, [vI (hi (u)), .int .u64 (lo (u))]), ((pb E1 2), 63, [vI 0, vI 0, vI 0])]) (hs := c_ (bx0 0 (vPc d b f r e t)) <| c_ (bx0 1 (vW u)) <| c_ (al_ 2) <| e_) (k := fun E1 ac wd h_1 => ?_)
  clear h
  refine then_n (wp_seq ?_)
  refine rg_ h_1 [[0],[1],[0,1,2],r_ 4,r_ 5,[0,1,2,3,5],[0,1,2,3,6],[7],[8],[0,1,2,3,4,7,8,9],[0,1,2,3,4,5,7,8,9,10],r_ 12] [K_ (vW u), K_ (vW 1000000000000000000), K_ (vT3 (vW (u / 1000000000000000000)) (vW aa) (vI 0)), K_ (vT3 (vW (u / 1000000000000000000)) (vW aa) (vI 0)), K_ (vW (u / 1000000000000000000)), K_ (vW aa), K_ (vI 0), KE_ fun env => vP (pb env 7) 0, KE_ fun env => vP (pb env 8) 0, none, none, K_ (vI 0)] (fun E2 => [(2, vP (pb E1 0) 0), (4, vP (pb E1 2) 0), (5, vP (pb E2 7) 0), (6, vP (pb E2 8) 0)]) (W := [{ i := 7, T := 66, c0 := [vI 0, .int .u64 0], s := some 9, c1 := fun _ => [vI (hi (u / 1000000000000000000)), .int .u64 (lo (u / 1000000000000000000))] }, { i := 8, T := 66, c0 := [vI 0, .int .u64 0], s := some 10, c1 := fun _ => [vI (hi (aa)), .int .u64 (lo (aa))] }]) (M' := fun E2 => [((pb E1 0), 124, [vI d, vI (hi (b)), .int .u64 (lo (b)), vI (hi (f)), .int .u64 (lo (f)), vI (hi (dayA)), .int .u64 (lo (dayA)), vI (hi (dayA + r)), .int .u64 (lo (dayA + r)), vI (hi (r)), .int .u64 (lo (r)), vI (hi (e)), .int .u64 (lo (e)), vI t]), ((pb E1 1), 66, [vI (hi (u)), .int .u64 (lo (u))]), ((pb E1 2), 63, [vI 0, vI 0, vI 0]), ((pb E2 7), 66, [vI (hi (u / 1000000000000000000)), .int .u64 (lo (u / 1000000000000000000))]), ((pb E2 8), 66, [vI (hi (aa)), .int .u64 (lo (aa))])]) (hs := c_ (ld_ 1 (hrd := by exact rd66 rfl rfl)) <| c_ (cl_ Try.func93 (h := fun env => ⟨_, (of_any 1000000000000000000 (by omega) (by omega)), rfl⟩)) <| c_ (cl_ Try.func92 (h := fun env => ⟨_, ((wdiv_any u 1000000000000000000 (by unfold InW; omega) (by unfold InW; omega) (by omega)).eq (congrArg (fun z => vT3 (vW (u / 1000000000000000000)) (vW z) (vI 0)) h3)), rfl⟩)) <| c_ mv_ <| c_ ext_ <| c_ ext_ <| c_ ext_ <| c_ (al_ 3) <| c_ (al_ 4) <| c_ (sw_ 3 7 (hst := by exact fun _ _ _ hc => st66 rfl rfl rfl hc)) <| c_ (sw_ 4 8 (hst := by exact fun _ _ _ hc => st66 rfl rfl rfl hc)) <| c_ mv_ <| e_) (k := fun E2 ac wd h_2 => ?_)
  clear h_1
  refine then_n (wp_seq ?_)
  refine rg_ h_2 [[0],[1],[0,1,2],r_ 4,r_ 5,[0,1,2,3,5],[0,1,2,3,6],[7],[8],[0,1,2,3,4,7,8,9],[0,1,2,3,4,5,7,8,9,10],r_ 12] [K_ (vW (u / 1000000000000000000)), K_ (vW 86400), K_ (vT3 (vW dd) (vW ss) (vI 0)), K_ (vT3 (vW dd) (vW ss) (vI 0)), K_ (vW dd), K_ (vW ss), K_ (vI 0), KE_ fun env => vP (pb env 7) 0, KE_ fun env => vP (pb env 8) 0, none, none, K_ (vI 0)] (fun E3 => [(2, vP (pb E1 0) 0), (4, vP (pb E1 2) 0), (6, vP (pb E2 8) 0), (8, vP (pb E3 7) 0), (9, vP (pb E3 8) 0)]) (W := [{ i := 7, T := 66, c0 := [vI 0, .int .u64 0], s := some 9, c1 := fun _ => [vI (hi (dd)), .int .u64 (lo (dd))] }, { i := 8, T := 66, c0 := [vI 0, .int .u64 0], s := some 10, c1 := fun _ => [vI (hi (ss)), .int .u64 (lo (ss))] }]) (M' := fun E3 => [((pb E1 0), 124, [vI d, vI (hi (b)), .int .u64 (lo (b)), vI (hi (f)), .int .u64 (lo (f)), vI (hi (dayA)), .int .u64 (lo (dayA)), vI (hi (dayA + r)), .int .u64 (lo (dayA + r)), vI (hi (r)), .int .u64 (lo (r)), vI (hi (e)), .int .u64 (lo (e)), vI t]), ((pb E1 1), 66, [vI (hi (u)), .int .u64 (lo (u))]), ((pb E1 2), 63, [vI 0, vI 0, vI 0]), ((pb E2 7), 66, [vI (hi (u / 1000000000000000000)), .int .u64 (lo (u / 1000000000000000000))]), ((pb E2 8), 66, [vI (hi (aa)), .int .u64 (lo (aa))]), ((pb E3 7), 66, [vI (hi (dd)), .int .u64 (lo (dd))]), ((pb E3 8), 66, [vI (hi (ss)), .int .u64 (lo (ss))])]) (hs := c_ (ld_ 3 (hrd := by exact rd66 rfl rfl)) <| c_ (cl_ Try.func93 (h := fun env => ⟨_, (of_any 86400 (by omega) (by omega)), rfl⟩)) <| c_ (cl_ Try.func92 (h := fun env => ⟨_, ((wdiv_any (u / 1000000000000000000) 86400 (by unfold InW; omega) (by unfold InW; omega) (by omega)).eq (congrArg2 (fun y z => vT3 (vW y) (vW z) (vI 0)) h1 h2)), rfl⟩)) <| c_ mv_ <| c_ ext_ <| c_ ext_ <| c_ ext_ <| c_ (al_ 5) <| c_ (al_ 6) <| c_ (sw_ 5 7 (hst := by exact fun _ _ _ hc => st66 rfl rfl rfl hc)) <| c_ (sw_ 6 8 (hst := by exact fun _ _ _ hc => st66 rfl rfl rfl hc)) <| c_ mv_ <| e_) (k := fun E3 ac wd h_3 => ?_)
  clear h_2
  refine then_n (wp_seq ?_)
  refine rg_ h_3 [[0],[0,1],[0,1,2],r_ 4,[0,1,2,4],[0,1,2,3,5],r_ 7] [K_ (vW dd), K_ (vT2 (vI dd) (vI 0)), K_ (vT2 (vI dd) (vI 0)), K_ (vI dd), K_ (vI 0), K_ (vI dd), K_ (vI 0)] (fun E4 => [(2, vP (pb E1 0) 0), (4, vP (pb E1 2) 0), (6, vP (pb E2 8) 0), (9, vP (pb E3 8) 0), (11, vI dd)]) (hs := c_ (ld_ 5 (hrd := by exact rd66 rfl rfl)) <| c_ (cl_ Try.func94 (h := fun env => ⟨_, (wint_yes dd (by omega) (by omega)), rfl⟩)) <| c_ mv_ <| c_ ext_ <| c_ ext_ <| c_ mv_ <| c_ mv_ <| e_) (k := fun E4 ac wd h_4 => ?_)
  clear h_3
  refine then_n (wp_seq ?_)
  refine rg_ h_4 [[0],[0,1],[0,1,2],r_ 4,[0,1,2,4],[0,1,2,3,5],r_ 7] [K_ (vW ss), K_ (vT2 (vI ss) (vI 0)), K_ (vT2 (vI ss) (vI 0)), K_ (vI ss), K_ (vI 0), K_ (vI ss), K_ (vI 0)] (fun E5 => [(2, vP (pb E1 0) 0), (4, vP (pb E1 2) 0), (6, vP (pb E2 8) 0), (11, vI dd), (13, vI ss)]) (hs := c_ (ld_ 6 (hrd := by exact rd66 rfl rfl)) <| c_ (cl_ Try.func94 (h := fun env => ⟨_, (wint_yes ss (by omega) (by omega)), rfl⟩)) <| c_ mv_ <| c_ ext_ <| c_ ext_ <| c_ mv_ <| c_ mv_ <| e_) (k := fun E5 ac wd h_5 => ?_)
  clear h_4
  refine then_n (wp_seq ?_)
  refine rg_ h_5 [[0],[0,1],[0,1,2],r_ 4,[0,1,2,4],[0,1,2,3,5],r_ 7] [K_ (vW aa), K_ (vT2 (vI aa) (vI 0)), K_ (vT2 (vI aa) (vI 0)), K_ (vI aa), K_ (vI 0), K_ (vI aa), K_ (vI 0)] (fun E6 => [(2, vP (pb E1 0) 0), (4, vP (pb E1 2) 0), (11, vI dd), (13, vI ss), (15, vI aa)]) (hs := c_ (ld_ 4 (hrd := by exact rd66 rfl rfl)) <| c_ (cl_ Try.func94 (h := fun env => ⟨_, (wint_yes aa (by omega) (by omega)), rfl⟩)) <| c_ mv_ <| c_ ext_ <| c_ ext_ <| c_ mv_ <| c_ mv_ <| e_) (k := fun E6 ac wd h_6 => ?_)
  clear h_5
  refine then_n (wp_seq (wp_seq ?_))
  refine rg_ h_6 [[0],[1],[1,2],r_ 4] [K_ (vI dd), K_ (vP (pb E1 0) 13), K_ (vI t), K_ (.bool (decide (t ≤ dd)))] (fun E7 => [(4, vP (pb E1 2) 0), (11, vI dd), (13, vI ss), (15, vI aa), (49, .bool (decide (t ≤ dd)))]) (hs := c_ mv_ <| c_ (fa0 (vP (pb E1 0) 0)) <| c_ (ld_ 0 (hrd := by exact rd3 rfl)) <| c_ (bi0 (vI dd) (vI t)) <| e_) (k := fun E7 ac wd h_7 => ?_)
  clear h_6
  refine then_n ?_
  refine wp_cond_split (eval_tmp (h_7.g (t := 49) rfl)) (fun h => ?_) (fun h => ?_)
  refine rg_ h_7 [[0],[0,1],[2],[2,3],[0,1,4],r_ 6] [K_ (vI dd), K_ (vI (dd - 1)), K_ (vI ss), K_ (vI (ss + 86400)), K_ (vI (dd - 1)), K_ (vI (ss + 86400))] (fun E8 => [(4, vP (pb E1 2) 0), (11, vI (dd - 1)), (13, vI (ss + 86400)), (15, vI aa)]) (hs := c_ mv_ <| c_ (bi0 (vI dd) (vI 1)) <| c_ mv_ <| c_ (bi0 (vI ss) (vI 86400)) <| c_ mv_ <| c_ mv_ <| e_) (k := fun E8 ac wd h_8 => ?_)
  clear h_7
  refine then_n (wp_seq ?_)
  refine rg_ h_8 [[0],[1],[2],r_ 4,r_ 5] [K_ (vI (dd - 1)), K_ (vI (ss + 86400)), K_ (vI aa), K_ (vL (dd - 1) (ss + 86400) aa), none] (fun E9 => [(4, vP (pb E1 2) 0)]) (S := [⟨2, 4, fun _ => [vI (dd - 1), vI (ss + 86400), vI aa]⟩]) (M' := fun E9 => [((pb E1 0), 124, [vI d, vI (hi (b)), .int .u64 (lo (b)), vI (hi (f)), .int .u64 (lo (f)), vI (hi (dayA)), .int .u64 (lo (dayA)), vI (hi (dayA + r)), .int .u64 (lo (dayA + r)), vI (hi (r)), .int .u64 (lo (r)), vI (hi (e)), .int .u64 (lo (e)), vI t]), ((pb E1 1), 66, [vI (hi (u)), .int .u64 (lo (u))]), ((pb E1 2), 63, [vI (dd - 1), vI (ss + 86400), vI aa]), ((pb E2 7), 66, [vI (hi (u / 1000000000000000000)), .int .u64 (lo (u / 1000000000000000000))]), ((pb E2 8), 66, [vI (hi (aa)), .int .u64 (lo (aa))]), ((pb E3 7), 66, [vI (hi (dd)), .int .u64 (lo (dd))]), ((pb E3 8), 66, [vI (hi (ss)), .int .u64 (lo (ss))])]) (hs := c_ mv_ <| c_ mv_ <| c_ mv_ <| c_ (bd0 ([vI (dd - 1), vI (ss + 86400), vI aa])) <| c_ (se_ 2 (hst := by exact fun _ _ _ hc => st63 rfl rfl rfl rfl hc)) <| e_) (k := fun E9 ac wd h_9 => ?_)
  clear h_8
  refine then_n (wp_ret ?_)
  have s4 := h_9.g (t := 4) rfl
  have hc4 := (h_9.st.own 2 _ rfl).2
  have c4_0 := own_cell (o := 0) hc4 rfl
  have c4_1 := own_cell (o := 1) hc4 rfl
  have c4_2 := own_cell (o := 2) hc4 rfl
  refine leave (v := vL (dd - 1) (ss + 86400) aa) h_9.df (by simp [results, Try.results84, go_sem, Array.getD_eq_getD_getElem?, s4, c4_0, c4_1, c4_2, Try.underlying63]) ?_
  exact ⟨by rw [hres, if_pos (of_decide_eq_true h)], h_9.st.below⟩
  refine wp_skip (then_n (wp_seq ?_))
  refine rg_ h_7 [[0],[1],[2],r_ 4,r_ 5] [K_ (vI dd), K_ (vI ss), K_ (vI aa), K_ (vL dd ss aa), none] (fun E8 => [(4, vP (pb E1 2) 0)]) (S := [⟨2, 4, fun _ => [vI dd, vI ss, vI aa]⟩]) (M' := fun E8 => [((pb E1 0), 124, [vI d, vI (hi (b)), .int .u64 (lo (b)), vI (hi (f)), .int .u64 (lo (f)), vI (hi (dayA)), .int .u64 (lo (dayA)), vI (hi (dayA + r)), .int .u64 (lo (dayA + r)), vI (hi (r)), .int .u64 (lo (r)), vI (hi (e)), .int .u64 (lo (e)), vI t]), ((pb E1 1), 66, [vI (hi (u)), .int .u64 (lo (u))]), ((pb E1 2), 63, [vI dd, vI ss, vI aa]), ((pb E2 7), 66, [vI (hi (u / 1000000000000000000)), .int .u64 (lo (u / 1000000000000000000))]), ((pb E2 8), 66, [vI (hi (aa)), .int .u64 (lo (aa))]), ((pb E3 7), 66, [vI (hi (dd)), .int .u64 (lo (dd))]), ((pb E3 8), 66, [vI (hi (ss)), .int .u64 (lo (ss))])]) (hs := c_ mv_ <| c_ mv_ <| c_ mv_ <| c_ (bd0 ([vI dd, vI ss, vI aa])) <| c_ (se_ 2 (hst := by exact fun _ _ _ hc => st63 rfl rfl rfl rfl hc)) <| e_) (k := fun E8 ac wd h_8 => ?_)
  clear h_7
  refine then_n (wp_ret ?_)
  have s4 := h_8.g (t := 4) rfl
  have hc4 := (h_8.st.own 2 _ rfl).2
  have c4_0 := own_cell (o := 0) hc4 rfl
  have c4_1 := own_cell (o := 1) hc4 rfl
  have c4_2 := own_cell (o := 2) hc4 rfl
  refine leave (v := vL dd ss aa) h_8.df (by simp [results, Try.results84, go_sem, Array.getD_eq_getD_getElem?, s4, c4_0, c4_1, c4_2, Try.underlying63]) ?_
  exact ⟨by rw [hres, if_neg (of_decide_eq_false h)], h_8.st.below⟩
def lbl (t u : Int) : Value := if t ≤ splD u then vL (splD u - 1) (splS u + 86400) (splA u) else vL (splD u) (splS u) (splA u)
theorem plabel_any (d b f r e t u : Int) (hu : Near u) : Ret 84 #[vPc d b f r e t, vW u] (lbl t u) := plabel_core d b f r e t u _ _ _ _ hu rfl rfl rfl rfl
end Go.Proofs.Ytdbhgeihphjgeaa

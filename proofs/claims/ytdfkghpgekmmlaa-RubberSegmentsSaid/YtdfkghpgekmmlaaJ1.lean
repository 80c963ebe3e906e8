/- Texts C16, P15, Q1, R4, Q2, F9, F10, F11, F12 of one proof, one behind the other. -/
import Derived.Test.YtdfkghpgekmmlaaC15
import Derived.Test.YtdfkghpgekmmlaaM0
import Derived.Test.YtdfkghpgekmmlaaM1
import Derived.IntWalk
import Derived.Test.YtdfkghpgekmmlaaL13
import Derived.Test.YtdfkghpgekmmlaaR1
import Derived.Test.YtdfkghpgekmmlaaF8
import Derived.Test.YtdfkghpgekmmlaaL10
import Derived.Test.YtdfkghpgekmmlaaP14
import Derived.Test.YtdfkghpgekmmlaaM3
/- rubber.cut, piece.at, back, label (printed by my walk.py) -/
namespace Go.Proofs.Ytdfkghpgekmmlaa
open Go.RowKit
set_option linter.unusedVariables false
set_option linter.unusedSimpArgs false
attribute [local go_sem] vN bT bF vW vM vL vT2 vT3 vP vI execOp Act.eval evC hi_zero lo_zero Try.underlying25 Try.underlying36 Try.underlying39 Try.underlying59

abbrev vPc (d b f r e u : Int) : Value := .agg #[vI d, vI (hi b), .int .u64 (lo b), vI (hi f), .int .u64 (lo f), vI (hi dayA), .int .u64 (lo dayA), vI (hi (dayA + r)), .int .u64 (lo (dayA + r)), vI (hi r), .int .u64 (lo r), vI (hi e), .int .u64 (lo e), vI u]
attribute [local go_sem] vPc
theorem congrArg2 {α β γ : Type} (f : α → β → γ) {a a' : α} {b b' : β} (h1 : a = a') (h2 : b = b') : f a b = f a' b' := by rw [h1, h2]
theorem dayA_eq : jn 1 0 0 = dayA := by unfold jn dayA; omega
theorem dayA_pos : 0 < dayA := by unfold dayA; omega
/-- a part of a number, by a share of at most one -/
theorem share {x r L : Int} (hr : 0 ≤ r) (hL : r ≤ L) (h0 : 0 < L) : (0 ≤ x → 0 ≤ x * r / L ∧ x * r / L ≤ x) ∧ (x < 0 → x ≤ x * r / L ∧ x * r / L ≤ 0) := by
  constructor
  · intro hx
    refine ⟨Int.ediv_nonneg (Int.mul_nonneg hx hr) (by omega), ?_⟩
    have h1 : x * r ≤ x * L := Int.mul_le_mul_of_nonneg_left hL hx
    exact Int.ediv_le_of_le_mul h0 h1
  · intro hx
    have h1 : x * L ≤ x * r := Int.mul_le_mul_of_nonpos_left (by omega) hL
    refine ⟨Int.le_ediv_of_mul_le h0 h1, ?_⟩
    have h2 : x * r ≤ 0 := Int.mul_nonpos_of_nonpos_of_nonneg (by omega) hr
    exact Int.ediv_le_of_le_mul h0 (by omega)
theorem share_bd {x r L B : Int} (hr : 0 ≤ r) (hL : r ≤ L) (h0 : 0 < L) (h1 : -B ≤ x) (h2 : x ≤ B) : -B ≤ x * r / L ∧ x * r / L ≤ B := by
  have h := share (x := x) hr hL h0
  rcases Int.lt_or_le x 0 with hx | hx
  · have := h.2 hx; omega
  · have := h.1 hx; omega

set_option maxRecDepth 100000 in
set_option maxHeartbeats 8000000 in
theorem cut_core (d b f r : Int) (hd : -1048576 ≤ d) (hd1 : d ≤ 1048576) (hb : -1000000000 ≤ b) (hb1 : b ≤ 1000000000) (hf : -1048576 ≤ f) (hf1 : f ≤ 1048576) (hr : 0 ≤ r) (hr1 : r ≤ 1000000) : Ret 17 #[.agg #[vI d, vI b, vI f, vI r]] (vPc d (b * 100000000000) (jn f 0 0) (r * 100000000000) 0 0) := by
  intro w0
  have hst := St.start w0 (Θ := fun _ => True) (fun _ _ => trivial)
  refine en_ Try.func17 hst 24 [(0, .agg #[vI d, vI b, vI f, vI r])] (fun ac h => ?_)
  refine wp_seq ?_
  refine rg_ h [[0],[1]] [KE_ fun env => vP (pb env 0) 0, KE_ fun env => vP (pb env 1) 0] (fun E1 => [(1, vP (pb E1 0) 0), (2, vP (pb E1 1) 0)]) (W := [{ i := 0, T := 25, c0 := [vI d, vI b, vI f, vI r] }, { i := 1, T := 59, c0 := [vI 0, vI 0, .int .u64 0, vI 0, .int .u64 0, vI 0, .int .u64 0, vI 0, .int .u64 0, vI 0, .int .u64 0, vI 0, .int .u64 0, vI 0] }]) (M' := fun E1 => [((pb E1 0), 25, [vI d, vI b, vI f, vI r]), ((pb E1 1), 59, [vI 0, vI 0, .int .u64 0, vI 0, .int .u64 0, vI 0, .int .u64 0, vI 0, .int .u64 0, vI 0, .int .u64 0, vI 0, .int .u64 0, vI 0])]) (hs := c_ (bx0 0 (.agg #[vI d, vI b, vI f, vI r])) <| c_ (al_ 1) <| e_) (k := fun E1 ac wd h_1 => ?_)
  clear h
  refine then_n (wp_seq ?_)
  refine rg_ h_1 [[0],[0,1],[2],[2,3],[2,3,4],[5],[5,6],[2,3,4,5,6,7],[2,3,4,5,6,7,8],[9],[9,10],[2,3,4,5,6,7,8,9,10,11],r_ 13,[13],r_ 15] [K_ (vP (pb E1 0) 0), K_ (vI d), K_ (vP (pb E1 0) 1), K_ (vI b), K_ (vW (b * 100000000000)), K_ (vP (pb E1 0) 2), K_ (vI f), K_ (vW (jn f 0 0)), K_ (vW dayA), K_ (vP (pb E1 0) 3), K_ (vI r), K_ (vW (r * 100000000000)), K_ (.agg #[vI d, vI (hi (b * 100000000000)), .int .u64 (lo (b * 100000000000)), vI (hi (jn f 0 0)), .int .u64 (lo (jn f 0 0)), vI (hi (dayA)), .int .u64 (lo (dayA)), vI 0, .int .u64 0, vI (hi (r * 100000000000)), .int .u64 (lo (r * 100000000000)), vI 0, .int .u64 0, vI 0]), KE_ fun env => vP (pb env 13) 0, none] (fun E2 => [(2, vP (pb E1 1) 0), (3, vP (pb E2 13) 0)]) (W := [{ i := 13, T := 59, c0 := [vI 0, vI 0, .int .u64 0, vI 0, .int .u64 0, vI 0, .int .u64 0, vI 0, .int .u64 0, vI 0, .int .u64 0, vI 0, .int .u64 0, vI 0], s := some 14, c1 := fun _ => [vI d, vI (hi (b * 100000000000)), .int .u64 (lo (b * 100000000000)), vI (hi (jn f 0 0)), .int .u64 (lo (jn f 0 0)), vI (hi (dayA)), .int .u64 (lo (dayA)), vI 0, .int .u64 0, vI (hi (r * 100000000000)), .int .u64 (lo (r * 100000000000)), vI 0, .int .u64 0, vI 0] }]) (M' := fun E2 => [((pb E1 0), 25, [vI d, vI b, vI f, vI r]), ((pb E1 1), 59, [vI 0, vI 0, .int .u64 0, vI 0, .int .u64 0, vI 0, .int .u64 0, vI 0, .int .u64 0, vI 0, .int .u64 0, vI 0, .int .u64 0, vI 0]), ((pb E2 13), 59, [vI d, vI (hi (b * 100000000000)), .int .u64 (lo (b * 100000000000)), vI (hi (jn f 0 0)), .int .u64 (lo (jn f 0 0)), vI (hi (dayA)), .int .u64 (lo (dayA)), vI 0, .int .u64 0, vI (hi (r * 100000000000)), .int .u64 (lo (r * 100000000000)), vI 0, .int .u64 0, vI 0])]) (hs := c_ (fa0 (vP (pb E1 0) 0)) <| c_ (ld_ 0 (hrd := by exact rd3 rfl)) <| c_ (fa0 (vP (pb E1 0) 0)) <| c_ (ld_ 0 (hrd := by exact rd3 rfl)) <| c_ (cl_ Try.func38 (h := fun env => ⟨_, (times_any b 100000000000 (by unfold In64; omega) (by unfold In64; omega)), rfl⟩)) <| c_ (fa0 (vP (pb E1 0) 0)) <| c_ (ld_ 0 (hrd := by exact rd3 rfl)) <| c_ (cl_ Try.func19 (h := fun env => ⟨_, (begin_any f (by omega) (by omega)), rfl⟩)) <| c_ (cl_ Try.func19 (h := fun env => ⟨_, ((begin_any 1 (by omega) (by omega)).eq (congrArg vW dayA_eq)), rfl⟩)) <| c_ (fa0 (vP (pb E1 0) 0)) <| c_ (ld_ 0 (hrd := by exact rd3 rfl)) <| c_ (cl_ Try.func38 (h := fun env => ⟨_, (times_any r 100000000000 (by unfold In64; omega) (by unfold In64; omega)), rfl⟩)) <| c_ (bd0 ([vI d, vW (b * 100000000000), vW (jn f 0 0), vW dayA, vW (r * 100000000000)])) <| c_ (al_ 2) <| c_ (sw_ 2 13 (hst := by exact fun _ _ _ hc => st59 rfl rfl rfl rfl rfl rfl rfl rfl rfl rfl rfl rfl rfl rfl rfl hc)) <| e_) (k := fun E2 ac wd h_2 => ?_)
  clear h_1
  refine then_n (wp_seq ?_)
  refine rg_ h_2 [[0],[0,1],[2],[2,3],r_ 5,r_ 6,r_ 7] [K_ (vP (pb E2 13) 5), K_ (vW dayA), K_ (vP (pb E2 13) 9), K_ (vW (r * 100000000000)), K_ (vW (dayA + r * 100000000000)), K_ (vP (pb E2 13) 7), none] (fun E3 => [(2, vP (pb E1 1) 0), (3, vP (pb E2 13) 0)]) (S := [⟨2, 6, fun _ => [vI d, vI (hi (b * 100000000000)), .int .u64 (lo (b * 100000000000)), vI (hi (jn f 0 0)), .int .u64 (lo (jn f 0 0)), vI (hi (dayA)), .int .u64 (lo (dayA)), vI (hi (dayA + r * 100000000000)), .int .u64 (lo (dayA + r * 100000000000)), vI (hi (r * 100000000000)), .int .u64 (lo (r * 100000000000)), vI 0, .int .u64 0, vI 0]⟩]) (M' := fun E3 => [((pb E1 0), 25, [vI d, vI b, vI f, vI r]), ((pb E1 1), 59, [vI 0, vI 0, .int .u64 0, vI 0, .int .u64 0, vI 0, .int .u64 0, vI 0, .int .u64 0, vI 0, .int .u64 0, vI 0, .int .u64 0, vI 0]), ((pb E2 13), 59, [vI d, vI (hi (b * 100000000000)), .int .u64 (lo (b * 100000000000)), vI (hi (jn f 0 0)), .int .u64 (lo (jn f 0 0)), vI (hi (dayA)), .int .u64 (lo (dayA)), vI (hi (dayA + r * 100000000000)), .int .u64 (lo (dayA + r * 100000000000)), vI (hi (r * 100000000000)), .int .u64 (lo (r * 100000000000)), vI 0, .int .u64 0, vI 0])]) (hs := c_ (fa0 (vP (pb E2 13) 0)) <| c_ (ld_ 2 (hrd := by exact rd39 rfl rfl)) <| c_ (fa0 (vP (pb E2 13) 0)) <| c_ (ld_ 2 (hrd := by exact rd39 rfl rfl)) <| c_ (cl_ Try.func39 (h := fun env => ⟨_, (plus_any dayA (r * 100000000000) (by unfold InW dayA; omega) (by unfold InW; omega) (by unfold InW dayA; omega)), rfl⟩)) <| c_ (fa0 (vP (pb E2 13) 0)) <| c_ (se_ 2 (hst := by exact fun _ _ _ hc => st39 rfl rfl rfl hc)) <| e_) (k := fun E3 ac wd h_3 => ?_)
  clear h_2
  refine then_n (wp_seq ?_)
  refine rg_ h_3 [[0],[0,1]] [K_ (vPc d (b * 100000000000) (jn f 0 0) (r * 100000000000) 0 0), none] (fun E4 => [(2, vP (pb E1 1) 0)]) (S := [⟨1, 1, fun _ => [vI d, vI (hi (b * 100000000000)), .int .u64 (lo (b * 100000000000)), vI (hi (jn f 0 0)), .int .u64 (lo (jn f 0 0)), vI (hi (dayA)), .int .u64 (lo (dayA)), vI (hi (dayA + r * 100000000000)), .int .u64 (lo (dayA + r * 100000000000)), vI (hi (r * 100000000000)), .int .u64 (lo (r * 100000000000)), vI 0, .int .u64 0, vI 0]⟩]) (M' := fun E4 => [((pb E1 0), 25, [vI d, vI b, vI f, vI r]), ((pb E1 1), 59, [vI d, vI (hi (b * 100000000000)), .int .u64 (lo (b * 100000000000)), vI (hi (jn f 0 0)), .int .u64 (lo (jn f 0 0)), vI (hi (dayA)), .int .u64 (lo (dayA)), vI (hi (dayA + r * 100000000000)), .int .u64 (lo (dayA + r * 100000000000)), vI (hi (r * 100000000000)), .int .u64 (lo (r * 100000000000)), vI 0, .int .u64 0, vI 0]), ((pb E2 13), 59, [vI d, vI (hi (b * 100000000000)), .int .u64 (lo (b * 100000000000)), vI (hi (jn f 0 0)), .int .u64 (lo (jn f 0 0)), vI (hi (dayA)), .int .u64 (lo (dayA)), vI (hi (dayA + r * 100000000000)), .int .u64 (lo (dayA + r * 100000000000)), vI (hi (r * 100000000000)), .int .u64 (lo (r * 100000000000)), vI 0, .int .u64 0, vI 0])]) (hs := c_ (ld_ 2 (hrd := by exact rd59 rfl rfl rfl rfl rfl rfl rfl rfl rfl rfl rfl rfl rfl rfl)) <| c_ (se_ 1 (hst := by exact fun _ _ _ hc => st59 rfl rfl rfl rfl rfl rfl rfl rfl rfl rfl rfl rfl rfl rfl rfl hc)) <| e_) (k := fun E4 ac wd h_4 => ?_)
  clear h_3
  refine then_n (wp_ret ?_)
  refine lvC (v := vPc d (b * 100000000000) (jn f 0 0) (r * 100000000000) 0 0) Try.results17 h_4 1 (rd59 rfl rfl rfl rfl rfl rfl rfl rfl rfl rfl rfl rfl rfl rfl) ?_
  exact ⟨rfl, h_4.st.below⟩
/-- a piece's numbers: base, from, rate -/
def PcOk (b f r : Int) : Prop := (-100000000000000000000 ≤ b ∧ b ≤ 100000000000000000000) ∧ (-100000000000000000000000000000 ≤ f ∧ f ≤ 100000000000000000000000000000) ∧ 0 ≤ r ∧ r ≤ 100000000000000000
/-- an instant, or a count, that is not far -/
def Near (u : Int) : Prop := -1000000000000000000000000000000 ≤ u ∧ u ≤ 1000000000000000000000000000000
theorem PcOk.rd {b f r : Int} (h : PcOk b f r) : r ≤ dayA := by unfold PcOk at h; unfold dayA; omega
theorem gain_bd {b f r u : Int} (h : PcOk b f r) (hu : Near u) : -2000000000000000000000000000000 ≤ (u - f) * r / dayA ∧ (u - f) * r / dayA ≤ 2000000000000000000000000000000 := by
  have := share_bd (x := u - f) (B := 2000000000000000000000000000000) h.2.2.1 h.rd dayA_pos (by unfold PcOk at h; unfold Near at hu; omega) (by unfold PcOk at h; unfold Near at hu; omega)
  exact this
set_option maxRecDepth 100000 in
set_option maxHeartbeats 8000000 in
theorem pat_core (d b f r e t u : Int) (hp : PcOk b f r) (hu : Near u) : Ret 18 #[vPc d b f r e t, vW u] (vW (u + b + (u - f) * r / dayA)) := by
  have hg := gain_bd hp hu
  unfold PcOk at hp
  unfold Near at hu
  have hd0 := dayA_pos
  have hd1 : dayA = 86400000000000000000000 := rfl
  intro w0
  have hst := St.start w0 (Θ := fun _ => True) (fun _ _ => trivial)
  refine en_ Try.func18 hst 27 [(0, vPc d b f r e t), (1, vW u)] (fun ac h => ?_)
  refine wp_seq ?_
  refine rg_ h [[0],[1],[2]] [KE_ fun env => vP (pb env 0) 0, KE_ fun env => vP (pb env 1) 0, KE_ fun env => vP (pb env 2) 0] (fun E1 => [(2, vP (pb E1 0) 0), (3, vP (pb E1 1) 0), (4, vP (pb E1 2) 0)]) (W := [{ i := 0, T := 59, c0 := [vI d, vI (hi (b)), .int .u64 (lo (b)), vI (hi (f)), .int .u64 (lo (f)), vI (hi (dayA)), .int .u64 (lo (dayA)), vI (hi (dayA + r)), .int .u64 (lo (dayA + r)), vI (hi (r)), .int .u64 (lo (r)), vI (hi (e)), .int .u64 (lo (e)), vI t] }, { i := 1, T := 39, c0 := [vI (hi (u)), .int .u64 (lo (u))] }, { i := 2, T := 39, c0 := [vI 0, .int .u64 0] }]) (M' := fun E1 => [((pb E1 0), 59, [vI d, vI (hi (b)), .int .u64 (lo (b)), vI (hi (f)), .int .u64 (lo (f)), vI (hi (dayA)), .int .u64 (lo (dayA)), vI (hi (dayA + r)), .int .u64 (lo (dayA + r)), vI (hi (r)), .int .u64 (lo (r)), vI (hi (e)), .int .u64 (lo (e)), vI t]), ((pb E1 1), 39, [vI (hi (u)), .int .u64 (lo (u))]), ((pb E1 2), 39, [vI 0, .int .u64 0])]) (hs := c_ (bx0 0 (vPc d b f r e t)) <| c_ (bx0 1 (vW u)) <| c_ (al_ 2) <| e_) (k := fun E1 ac wd h_1 => ?_)
  clear h
  refine then_n (wp_seq ?_)
  refine rg_ h_1 [[0],[1],[1,2],r_ 4,[4],[4,5],[6],[6,7],r_ 9,r_ 10,r_ 11,[0,1,2,3,4,5,6,7,8,9,11],[0,1,2,3,4,5,6,7,8,9,12],[13],[14],[0,1,2,3,4,5,6,7,8,9,10,13,14,15],[0,1,2,3,4,5,6,7,8,9,10,11,13,14,15,16],r_ 18] [K_ (vW u), K_ (vP (pb E1 0) 3), K_ (vW f), K_ (vW (u - f)), K_ (vP (pb E1 0) 9), K_ (vW r), K_ (vP (pb E1 0) 5), K_ (vW dayA), K_ (vT3 (vW ((u - f) * r / dayA)) (vW ((u - f) * r % dayA)) (vI 0)), K_ (vT3 (vW ((u - f) * r / dayA)) (vW ((u - f) * r % dayA)) (vI 0)), K_ (vW ((u - f) * r / dayA)), K_ (vW ((u - f) * r % dayA)), K_ (vI 0), KE_ fun env => vP (pb env 13) 0, KE_ fun env => vP (pb env 14) 0, none, none, K_ (vI 0)] (fun E2 => [(2, vP (pb E1 0) 0), (3, vP (pb E1 1) 0), (4, vP (pb E1 2) 0), (5, vP (pb E2 13) 0)]) (W := [{ i := 13, T := 39, c0 := [vI 0, .int .u64 0], s := some 15, c1 := fun _ => [vI (hi ((u - f) * r / dayA)), .int .u64 (lo ((u - f) * r / dayA))] }, { i := 14, T := 39, c0 := [vI 0, .int .u64 0], s := some 16, c1 := fun _ => [vI (hi ((u - f) * r % dayA)), .int .u64 (lo ((u - f) * r % dayA))] }]) (M' := fun E2 => [((pb E1 0), 59, [vI d, vI (hi (b)), .int .u64 (lo (b)), vI (hi (f)), .int .u64 (lo (f)), vI (hi (dayA)), .int .u64 (lo (dayA)), vI (hi (dayA + r)), .int .u64 (lo (dayA + r)), vI (hi (r)), .int .u64 (lo (r)), vI (hi (e)), .int .u64 (lo (e)), vI t]), ((pb E1 1), 39, [vI (hi (u)), .int .u64 (lo (u))]), ((pb E1 2), 39, [vI 0, .int .u64 0]), ((pb E2 13), 39, [vI (hi ((u - f) * r / dayA)), .int .u64 (lo ((u - f) * r / dayA))]), ((pb E2 14), 39, [vI (hi ((u - f) * r % dayA)), .int .u64 (lo ((u - f) * r % dayA))])]) (hs := c_ (ld_ 1 (hrd := by exact rd39 rfl rfl)) <| c_ (fa0 (vP (pb E1 0) 0)) <| c_ (ld_ 0 (hrd := by exact rd39 rfl rfl)) <| c_ (cl_ Try.func41 (h := fun env => ⟨_, (less_any u f (by unfold InW; omega) (by unfold InW; omega) (by unfold InW; omega)), rfl⟩)) <| c_ (fa0 (vP (pb E1 0) 0)) <| c_ (ld_ 0 (hrd := by exact rd39 rfl rfl)) <| c_ (fa0 (vP (pb E1 0) 0)) <| c_ (ld_ 0 (hrd := by exact rd39 rfl rfl)) <| c_ (cl_ Try.func40 (h := fun env => ⟨_, (wmuldiv_fits (u - f) r dayA (by unfold InW; omega) (by unfold InW; omega) (by unfold InW; omega) (by omega) (by unfold InW; omega)), rfl⟩)) <| c_ mv_ <| c_ ext_ <| c_ ext_ <| c_ ext_ <| c_ (al_ 3) <| c_ (al_ 4) <| c_ (sw_ 3 13 (hst := by exact fun _ _ _ hc => st39 rfl rfl rfl hc)) <| c_ (sw_ 4 14 (hst := by exact fun _ _ _ hc => st39 rfl rfl rfl hc)) <| c_ mv_ <| e_) (k := fun E2 ac wd h_2 => ?_)
  clear h_1
  refine then_n (wp_seq ?_)
  refine rg_ h_2 [[0],[1],[1,2],r_ 4,[4],r_ 6,r_ 7] [K_ (vW u), K_ (vP (pb E1 0) 1), K_ (vW b), K_ (vW (u + b)), K_ (vW ((u - f) * r / dayA)), K_ (vW (u + b + (u - f) * r / dayA)), none] (fun E3 => [(4, vP (pb E1 2) 0)]) (S := [⟨2, 6, fun _ => [vI (hi (u + b + (u - f) * r / dayA)), .int .u64 (lo (u + b + (u - f) * r / dayA))]⟩]) (M' := fun E3 => [((pb E1 0), 59, [vI d, vI (hi (b)), .int .u64 (lo (b)), vI (hi (f)), .int .u64 (lo (f)), vI (hi (dayA)), .int .u64 (lo (dayA)), vI (hi (dayA + r)), .int .u64 (lo (dayA + r)), vI (hi (r)), .int .u64 (lo (r)), vI (hi (e)), .int .u64 (lo (e)), vI t]), ((pb E1 1), 39, [vI (hi (u)), .int .u64 (lo (u))]), ((pb E1 2), 39, [vI (hi (u + b + (u - f) * r / dayA)), .int .u64 (lo (u + b + (u - f) * r / dayA))]), ((pb E2 13), 39, [vI (hi ((u - f) * r / dayA)), .int .u64 (lo ((u - f) * r / dayA))]), ((pb E2 14), 39, [vI (hi ((u - f) * r % dayA)), .int .u64 (lo ((u - f) * r % dayA))])]) (hs := c_ (ld_ 1 (hrd := by exact rd39 rfl rfl)) <| c_ (fa0 (vP (pb E1 0) 0)) <| c_ (ld_ 0 (hrd := by exact rd39 rfl rfl)) <| c_ (cl_ Try.func39 (h := fun env => ⟨_, (plus_any u b (by unfold InW; omega) (by unfold InW; omega) (by unfold InW; omega)), rfl⟩)) <| c_ (ld_ 3 (hrd := by exact rd39 rfl rfl)) <| c_ (cl_ Try.func39 (h := fun env => ⟨_, (plus_any (u + b) ((u - f) * r / dayA) (by unfold InW; omega) (by unfold InW; omega) (by unfold InW; omega)), rfl⟩)) <| c_ (se_ 2 (hst := by exact fun _ _ _ hc => st39 rfl rfl rfl hc)) <| e_) (k := fun E3 ac wd h_3 => ?_)
  clear h_2
  refine then_n (wp_ret ?_)
  refine lvC (v := vW (u + b + (u - f) * r / dayA)) Try.results18 h_3 2 (rd39 rfl rfl) ?_
  exact ⟨rfl, h_3.st.below⟩
theorem pat_any (d b f r e t u : Int) (hp : PcOk b f r) (hu : Near u) : Ret 18 #[vPc d b f r e t, vW u] (vW (fA b f r u)) := pat_core d b f r e t u hp hu
set_option maxRecDepth 100000 in
set_option maxHeartbeats 8000000 in
theorem back_core (d b f r e u t q rm res : Int) (hp : PcOk b f r) (ht : Near t) (hq0 : -4000000000000000000000000000000 ≤ q) (hq1 : q ≤ 4000000000000000000000000000000) (hres : res = if rm = 0 then q - 1 + f else q + f) (HM : Ret 40 #[vW (t - b - f + 1), vW dayA, vW (dayA + r)] (vT3 (vW q) (vW rm) (vI 0))) : Ret 33 #[vPc d b f r e u, vW t] (vW res) := by
  unfold PcOk at hp
  unfold Near at ht
  intro w0
  have hst := St.start w0 (Θ := fun _ => True) (fun _ _ => trivial)
  refine en_ Try.func33 hst 38 [(0, vPc d b f r e u), (1, vW t)] (fun ac h => ?_)
  refine wp_seq ?_
  refine rg_ h [[0],[1],[2]] [KE_ fun env => vP (pb env 0) 0, KE_ fun env => vP (pb env 1) 0, KE_ fun env => vP (pb env 2) 0] (fun E1 => [(2, vP (pb E1 0) 0), (3, vP (pb E1 1) 0), (4, vP (pb E1 2) 0)]) (W := [{ i := 0, T := 59, c0 := [vI d, vI (hi (b)), .int .u64 (lo (b)), vI (hi (f)), .int .u64 (lo (f)), vI (hi (dayA)), .int .u64 (lo (dayA)), vI (hi (dayA + r)), .int .u64 (lo (dayA + r)), vI (hi (r)), .int .u64 (lo (r)), vI (hi (e)), .int .u64 (lo (e)), vI u] }, { i := 1, T := 39, c0 := [vI (hi (t)), .int .u64 (lo (t))] }, { i := 2, T := 39, c0 := [vI 0, .int .u64 0] }]) (M' := fun E1 => [((pb E1 0), 59, [vI d, vI (hi (b)), .int .u64 (lo (b)), vI (hi (f)), .int .u64 (lo (f)), vI (hi (dayA)), .int .u64 (lo (dayA)), vI (hi (dayA + r)), .int .u64 (lo (dayA + r)), vI (hi (r)), .int .u64 (lo (r)), vI (hi (e)), .int .u64 (lo (e)), vI u]), ((pb E1 1), 39, [vI (hi (t)), .int .u64 (lo (t))]), ((pb E1 2), 39, [vI 0, .int .u64 0])]) (hs := c_ (bx0 0 (vPc d b f r e u)) <| c_ (bx0 1 (vW t)) <| c_ (al_ 2) <| e_) (k := fun E1 ac wd h_1 => ?_)
  clear h
  refine then_n (wp_seq ?_)
  refine rg_ h_1 [[0],[1],[1,2],r_ 4,[4],[4,5],r_ 7,[7],r_ 9] [K_ (vW t), K_ (vP (pb E1 0) 1), K_ (vW b), K_ (vW (t - b)), K_ (vP (pb E1 0) 3), K_ (vW f), K_ (vW (t - b - f)), KE_ fun env => vP (pb env 7) 0, none] (fun E2 => [(2, vP (pb E1 0) 0), (4, vP (pb E1 2) 0), (5, vP (pb E2 7) 0)]) (W := [{ i := 7, T := 39, c0 := [vI 0, .int .u64 0], s := some 8, c1 := fun _ => [vI (hi (t - b - f)), .int .u64 (lo (t - b - f))] }]) (M' := fun E2 => [((pb E1 0), 59, [vI d, vI (hi (b)), .int .u64 (lo (b)), vI (hi (f)), .int .u64 (lo (f)), vI (hi (dayA)), .int .u64 (lo (dayA)), vI (hi (dayA + r)), .int .u64 (lo (dayA + r)), vI (hi (r)), .int .u64 (lo (r)), vI (hi (e)), .int .u64 (lo (e)), vI u]), ((pb E1 1), 39, [vI (hi (t)), .int .u64 (lo (t))]), ((pb E1 2), 39, [vI 0, .int .u64 0]), ((pb E2 7), 39, [vI (hi (t - b - f)), .int .u64 (lo (t - b - f))])]) (hs := c_ (ld_ 1 (hrd := by exact rd39 rfl rfl)) <| c_ (fa0 (vP (pb E1 0) 0)) <| c_ (ld_ 0 (hrd := by exact rd39 rfl rfl)) <| c_ (cl_ Try.func41 (h := fun env => ⟨_, (less_any t b (by unfold InW; omega) (by unfold InW; omega) (by unfold InW; omega)), rfl⟩)) <| c_ (fa0 (vP (pb E1 0) 0)) <| c_ (ld_ 0 (hrd := by exact rd39 rfl rfl)) <| c_ (cl_ Try.func41 (h := fun env => ⟨_, (less_any (t - b) f (by unfold InW; omega) (by unfold InW; omega) (by unfold InW; omega)), rfl⟩)) <| c_ (al_ 3) <| c_ (sw_ 3 7 (hst := by exact fun _ _ _ hc => st39 rfl rfl rfl hc)) <| e_) (k := fun E2 ac wd h_2 => ?_)
  clear h_1
  refine then_n (wp_seq ?_)
  refine rg_ h_2 [[0],[1],[0,1,2],[3],[3,4],[5],[5,6],r_ 8,r_ 9,r_ 10,[0,1,2,3,4,5,6,7,8,10],[0,1,2,3,4,5,6,7,8,11],[12],[13],[0,1,2,3,4,5,6,7,8,9,12,13,14],[0,1,2,3,4,5,6,7,8,9,10,12,13,14,15],r_ 17] [K_ (vW (t - b - f)), K_ (vW 1), K_ (vW (t - b - f + 1)), K_ (vP (pb E1 0) 5), K_ (vW dayA), K_ (vP (pb E1 0) 7), K_ (vW (dayA + r)), K_ (vT3 (vW q) (vW rm) (vI 0)), K_ (vT3 (vW q) (vW rm) (vI 0)), K_ (vW q), K_ (vW rm), K_ (vI 0), KE_ fun env => vP (pb env 12) 0, KE_ fun env => vP (pb env 13) 0, none, none, K_ (vI 0)] (fun E3 => [(2, vP (pb E1 0) 0), (4, vP (pb E1 2) 0), (6, vP (pb E3 12) 0), (7, vP (pb E3 13) 0)]) (W := [{ i := 12, T := 39, c0 := [vI 0, .int .u64 0], s := some 14, c1 := fun _ => [vI (hi (q)), .int .u64 (lo (q))] }, { i := 13, T := 39, c0 := [vI 0, .int .u64 0], s := some 15, c1 := fun _ => [vI (hi (rm)), .int .u64 (lo (rm))] }]) (M' := fun E3 => [((pb E1 0), 59, [vI d, vI (hi (b)), .int .u64 (lo (b)), vI (hi (f)), .int .u64 (lo (f)), vI (hi (dayA)), .int .u64 (lo (dayA)), vI (hi (dayA + r)), .int .u64 (lo (dayA + r)), vI (hi (r)), .int .u64 (lo (r)), vI (hi (e)), .int .u64 (lo (e)), vI u]), ((pb E1 1), 39, [vI (hi (t)), .int .u64 (lo (t))]), ((pb E1 2), 39, [vI 0, .int .u64 0]), ((pb E2 7), 39, [vI (hi (t - b - f)), .int .u64 (lo (t - b - f))]), ((pb E3 12), 39, [vI (hi (q)), .int .u64 (lo (q))]), ((pb E3 13), 39, [vI (hi (rm)), .int .u64 (lo (rm))])]) (hs := c_ (ld_ 3 (hrd := by exact rd39 rfl rfl)) <| c_ (cl_ Try.func42 (h := fun env => ⟨_, (of_any 1 (by omega) (by omega)), rfl⟩)) <| c_ (cl_ Try.func39 (h := fun env => ⟨_, (plus_any (t - b - f) 1 (by unfold InW; omega) (by unfold InW; omega) (by unfold InW; omega)), rfl⟩)) <| c_ (fa0 (vP (pb E1 0) 0)) <| c_ (ld_ 0 (hrd := by exact rd39 rfl rfl)) <| c_ (fa0 (vP (pb E1 0) 0)) <| c_ (ld_ 0 (hrd := by exact rd39 rfl rfl)) <| c_ (cl_ Try.func40 (h := fun env => ⟨_, HM, rfl⟩)) <| c_ mv_ <| c_ ext_ <| c_ ext_ <| c_ ext_ <| c_ (al_ 4) <| c_ (al_ 5) <| c_ (sw_ 4 12 (hst := by exact fun _ _ _ hc => st39 rfl rfl rfl hc)) <| c_ (sw_ 5 13 (hst := by exact fun _ _ _ hc => st39 rfl rfl rfl hc)) <| c_ mv_ <| e_) (k := fun E3 ac wd h_3 => ?_)
  clear h_2
  refine then_n (wp_seq (wp_seq ?_))
  by_cases hz : rm = 0
  have hz2 := hz
  refine rg_ h_3 [[0],[1],[0,1,2]] [K_ (vW rm), K_ (.agg #[vI 0, .int .u64 0]), K_ bT] (fun E4 => [(2, vP (pb E1 0) 0), (4, vP (pb E1 2) 0), (6, vP (pb E3 12) 0), (30, bT)]) (hs := c_ (ld_ 5 (hrd := by exact rd39 rfl rfl)) <| c_ (bd0 ([])) <| c_ (bi0 (vW rm) (.agg #[vI 0, .int .u64 0]) (h := by intro env w; simp [go_sem, hz, hi_zero, lo_zero])) <| e_) (k := fun E4 ac wd h_4 => ?_)
  clear h_3
  refine then_n ?_
  refine cT_ h_4 ?_
  refine rg_ h_4 [[0],[1],[0,1,2],r_ 4] [K_ (vW q), K_ (vW 1), K_ (vW (q - 1)), none] (fun E5 => [(2, vP (pb E1 0) 0), (4, vP (pb E1 2) 0), (6, vP (pb E3 12) 0)]) (S := [⟨4, 3, fun _ => [vI (hi (q - 1)), .int .u64 (lo (q - 1))]⟩]) (M' := fun E5 => [((pb E1 0), 59, [vI d, vI (hi (b)), .int .u64 (lo (b)), vI (hi (f)), .int .u64 (lo (f)), vI (hi (dayA)), .int .u64 (lo (dayA)), vI (hi (dayA + r)), .int .u64 (lo (dayA + r)), vI (hi (r)), .int .u64 (lo (r)), vI (hi (e)), .int .u64 (lo (e)), vI u]), ((pb E1 1), 39, [vI (hi (t)), .int .u64 (lo (t))]), ((pb E1 2), 39, [vI 0, .int .u64 0]), ((pb E2 7), 39, [vI (hi (t - b - f)), .int .u64 (lo (t - b - f))]), ((pb E3 12), 39, [vI (hi (q - 1)), .int .u64 (lo (q - 1))]), ((pb E3 13), 39, [vI (hi (rm)), .int .u64 (lo (rm))])]) (hs := c_ (ld_ 4 (hrd := by exact rd39 rfl rfl)) <| c_ (cl_ Try.func42 (h := fun env => ⟨_, (of_any 1 (by omega) (by omega)), rfl⟩)) <| c_ (cl_ Try.func41 (h := fun env => ⟨_, (less_any q 1 (by unfold InW; omega) (by unfold InW; omega) (by unfold InW; omega)), rfl⟩)) <| c_ (se_ 4 (hst := by exact fun _ _ _ hc => st39 rfl rfl rfl hc)) <| e_) (k := fun E5 ac wd h_5 => ?_)
  clear h_4
  refine then_n (wp_seq ?_)
  refine rg_ h_5 [[0],[1],[1,2],r_ 4,r_ 5] [K_ (vW (q - 1)), K_ (vP (pb E1 0) 3), K_ (vW f), K_ (vW (q - 1 + f)), none] (fun E6 => [(4, vP (pb E1 2) 0)]) (S := [⟨2, 4, fun _ => [vI (hi (q - 1 + f)), .int .u64 (lo (q - 1 + f))]⟩]) (M' := fun E6 => [((pb E1 0), 59, [vI d, vI (hi (b)), .int .u64 (lo (b)), vI (hi (f)), .int .u64 (lo (f)), vI (hi (dayA)), .int .u64 (lo (dayA)), vI (hi (dayA + r)), .int .u64 (lo (dayA + r)), vI (hi (r)), .int .u64 (lo (r)), vI (hi (e)), .int .u64 (lo (e)), vI u]), ((pb E1 1), 39, [vI (hi (t)), .int .u64 (lo (t))]), ((pb E1 2), 39, [vI (hi (q - 1 + f)), .int .u64 (lo (q - 1 + f))]), ((pb E2 7), 39, [vI (hi (t - b - f)), .int .u64 (lo (t - b - f))]), ((pb E3 12), 39, [vI (hi (q - 1)), .int .u64 (lo (q - 1))]), ((pb E3 13), 39, [vI (hi (rm)), .int .u64 (lo (rm))])]) (hs := c_ (ld_ 4 (hrd := by exact rd39 rfl rfl)) <| c_ (fa0 (vP (pb E1 0) 0)) <| c_ (ld_ 0 (hrd := by exact rd39 rfl rfl)) <| c_ (cl_ Try.func39 (h := fun env => ⟨_, (plus_any (q - 1) f (by unfold InW; omega) (by unfold InW; omega) (by unfold InW; omega)), rfl⟩)) <| c_ (se_ 2 (hst := by exact fun _ _ _ hc => st39 rfl rfl rfl hc)) <| e_) (k := fun E6 ac wd h_6 => ?_)
  clear h_5
  refine then_n (wp_ret ?_)
  refine lvC (v := vW (q - 1 + f)) Try.results33 h_6 2 (rd39 rfl rfl) ?_
  exact ⟨by rw [hres, if_pos hz], h_6.st.below⟩
  have hne := hilo0 hz
  refine rg_ h_3 [[0],[1],[0,1,2]] [K_ (vW rm), K_ (.agg #[vI 0, .int .u64 0]), K_ bF] (fun E4 => [(2, vP (pb E1 0) 0), (4, vP (pb E1 2) 0), (6, vP (pb E3 12) 0), (30, bF)]) (hs := c_ (ld_ 5 (hrd := by exact rd39 rfl rfl)) <| c_ (bd0 ([])) <| c_ (bi0 (vW rm) (.agg #[vI 0, .int .u64 0]) (h := by intro env w; (first | (simp [go_sem]; done) | (simp [go_sem]; exact fun g1 g2 => hne ⟨g1, g2⟩)))) <| e_) (k := fun E4 ac wd h_4 => ?_)
  clear h_3
  refine then_n ?_
  refine cF_ h_4 ?_
  refine wp_skip (then_n (wp_seq ?_))
  refine rg_ h_4 [[0],[1],[1,2],r_ 4,r_ 5] [K_ (vW q), K_ (vP (pb E1 0) 3), K_ (vW f), K_ (vW (q + f)), none] (fun E5 => [(4, vP (pb E1 2) 0)]) (S := [⟨2, 4, fun _ => [vI (hi (q + f)), .int .u64 (lo (q + f))]⟩]) (M' := fun E5 => [((pb E1 0), 59, [vI d, vI (hi (b)), .int .u64 (lo (b)), vI (hi (f)), .int .u64 (lo (f)), vI (hi (dayA)), .int .u64 (lo (dayA)), vI (hi (dayA + r)), .int .u64 (lo (dayA + r)), vI (hi (r)), .int .u64 (lo (r)), vI (hi (e)), .int .u64 (lo (e)), vI u]), ((pb E1 1), 39, [vI (hi (t)), .int .u64 (lo (t))]), ((pb E1 2), 39, [vI (hi (q + f)), .int .u64 (lo (q + f))]), ((pb E2 7), 39, [vI (hi (t - b - f)), .int .u64 (lo (t - b - f))]), ((pb E3 12), 39, [vI (hi (q)), .int .u64 (lo (q))]), ((pb E3 13), 39, [vI (hi (rm)), .int .u64 (lo (rm))])]) (hs := c_ (ld_ 4 (hrd := by exact rd39 rfl rfl)) <| c_ (fa0 (vP (pb E1 0) 0)) <| c_ (ld_ 0 (hrd := by exact rd39 rfl rfl)) <| c_ (cl_ Try.func39 (h := fun env => ⟨_, (plus_any q f (by unfold InW; omega) (by unfold InW; omega) (by unfold InW; omega)), rfl⟩)) <| c_ (se_ 2 (hst := by exact fun _ _ _ hc => st39 rfl rfl rfl hc)) <| e_) (k := fun E5 ac wd h_5 => ?_)
  clear h_4
  refine then_n (wp_ret ?_)
  refine lvC (v := vW (q + f)) Try.results33 h_5 2 (rd39 rfl rfl) ?_
  exact ⟨by rw [hres, if_neg hz], h_5.st.below⟩
theorem back_any (d b f r e u t : Int) (hp : PcOk b f r) (ht : Near t) : Ret 33 #[vPc d b f r e u, vW t] (vW (gA b f r t)) := by
  have hL : 0 < dayA + r := by have := dayA_pos; unfold PcOk at hp; omega
  have hb := share_bd (x := t - b - f + 1) (r := dayA) (L := dayA + r) (B := 3000000000000000000000000000000) (Int.le_of_lt dayA_pos) (by unfold PcOk at hp; omega) hL (by unfold PcOk at hp; unfold Near at ht; omega) (by unfold PcOk at hp; unfold Near at ht; omega)
  refine back_core d b f r e u t _ _ _ hp ht (by omega) (by omega) ?_ (wmuldiv_fits (t - b - f + 1) dayA (dayA + r) (by unfold PcOk at hp; unfold Near at ht; unfold InW; omega) (by unfold InW dayA; omega) (by unfold PcOk at hp; unfold InW dayA; omega) hL (by unfold InW; omega))
  unfold gA topq
  split <;> rfl
/-- the label of a count, by days of 86400 seconds -/
def splD (u : Int) : Int := u / 1000000000000000000 / 86400
def splS (u : Int) : Int := u / 1000000000000000000 % 86400
def splA (u : Int) : Int := u % 1000000000000000000
theorem spl_jn {d s a : Int} (hs : 0 ≤ s) (hs1 : s < 86400) (ha : 0 ≤ a) (ha1 : a < 1000000000000000000) : splD (jn d s a) = d ∧ splS (jn d s a) = s ∧ splA (jn d s a) = a := by
  unfold jn splD splS splA; omega
theorem jn_spl (u : Int) : jn (splD u) (splS u) (splA u) = u := by unfold jn splD splS splA; omega
theorem spl_in (u : Int) : 0 ≤ splS u ∧ splS u < 86400 ∧ 0 ≤ splA u ∧ splA u < 1000000000000000000 := by unfold splS splA; omega

set_option maxRecDepth 100000 in
set_option maxHeartbeats 8000000 in
theorem plabel_core (d b f r e t u dd ss aa : Int) (res : Value) (hu : Near u) (h1 : u / 1000000000000000000 / 86400 = dd) (h2 : u / 1000000000000000000 % 86400 = ss) (h3 : u % 1000000000000000000 = aa) (hres : res = if t ≤ dd then vL (dd - 1) (ss + 86400) aa else vL dd ss aa) : Ret 32 #[vPc d b f r e t, vW u] (res) := by
  unfold Near at hu
  have i1 : IntKind.i64.wrap (dd - 1) = dd - 1 := IntWalk.i64_in _ (by omega)
  have i2 : IntKind.i64.wrap (ss + 86400) = ss + 86400 := IntWalk.i64_in _ (by omega)
  intro w0
  have hst := St.start w0 (Θ := fun _ => True) (fun _ _ => trivial)
  refine en_ Try.func32 hst 58 [(0, vPc d b f r e t), (1, vW u)] (fun ac h => ?_)
  refine wp_seq ?_
  refine rg_ h [[0],[1],[2]] [KE_ fun env => vP (pb env 0) 0, KE_ fun env => vP (pb env 1) 0, KE_ fun env => vP (pb env 2) 0] (fun E1 => [(2, vP (pb E1 0) 0), (3, vP (pb E1 1) 0), (4, vP (pb E1 2) 0)]) (W := [{ i := 0, T := 59, c0 := [vI d, vI (hi (b)), .int .u64 (lo (b)), vI (hi (f)), .int .u64 (lo (f)), vI (hi (dayA)), .int .u64 (lo (dayA)), vI (hi (dayA + r)), .int .u64 (lo (dayA + r)), vI (hi (r)), .int .u64 (lo (r)), vI (hi (e)), .int .u64 (lo (e)), vI t] }, { i := 1, T := 39, c0 := [vI (hi (u)), .int .u64 (lo (u))] }, { i := 2, T := 36, c0 := [vI 0, vI 0, vI 0] }]) (M' := fun E1 => [((pb E1 0), 59, [vI d, vI (hi (b)), .int .u64 (lo (b)), vI (hi (f)), .int .u64 (lo (f)), vI (hi (dayA)), .int .u64 (lo (dayA)), vI (hi (dayA + r)), .int .u64 (lo (dayA + r)), vI (hi (r)), .int .u64 (lo (r)), vI (hi (e)), .int .u64 (lo (e)), vI t]), ((pb E1 1), 39, [vI (hi (u)), .int .u64 (lo (u))]), ((pb E1 2), 36, [vI 0, vI 0, vI 0])]) (hs := c_ (bx0 0 (vPc d b f r e t)) <| c_ (bx0 1 (vW u)) <| c_ (al_ 2) <| e_) (k := fun E1 ac wd h_1 => ?_)
  clear h
  refine then_n (wp_seq ?_)
  refine rg_ h_1 [[0],[1],[0,1,2],r_ 4,r_ 5,[0,1,2,3,5],[0,1,2,3,6],[7],[8],[0,1,2,3,4,7,8,9],[0,1,2,3,4,5,7,8,9,10],r_ 12] [K_ (vW u), K_ (vW 1000000000000000000), K_ (vT3 (vW (u / 1000000000000000000)) (vW aa) (vI 0)), K_ (vT3 (vW (u / 1000000000000000000)) (vW aa) (vI 0)), K_ (vW (u / 1000000000000000000)), K_ (vW aa), K_ (vI 0), KE_ fun env => vP (pb env 7) 0, KE_ fun env => vP (pb env 8) 0, none, none, K_ (vI 0)] (fun E2 => [(2, vP (pb E1 0) 0), (4, vP (pb E1 2) 0), (5, vP (pb E2 7) 0), (6, vP (pb E2 8) 0)]) (W := [{ i := 7, T := 39, c0 := [vI 0, .int .u64 0], s := some 9, c1 := fun _ => [vI (hi (u / 1000000000000000000)), .int .u64 (lo (u / 1000000000000000000))] }, { i := 8, T := 39, c0 := [vI 0, .int .u64 0], s := some 10, c1 := fun _ => [vI (hi (aa)), .int .u64 (lo (aa))] }]) (M' := fun E2 => [((pb E1 0), 59, [vI d, vI (hi (b)), .int .u64 (lo (b)), vI (hi (f)), .int .u64 (lo (f)), vI (hi (dayA)), .int .u64 (lo (dayA)), vI (hi (dayA + r)), .int .u64 (lo (dayA + r)), vI (hi (r)), .int .u64 (lo (r)), vI (hi (e)), .int .u64 (lo (e)), vI t]), ((pb E1 1), 39, [vI (hi (u)), .int .u64 (lo (u))]), ((pb E1 2), 36, [vI 0, vI 0, vI 0]), ((pb E2 7), 39, [vI (hi (u / 1000000000000000000)), .int .u64 (lo (u / 1000000000000000000))]), ((pb E2 8), 39, [vI (hi (aa)), .int .u64 (lo (aa))])]) (hs := c_ (ld_ 1 (hrd := by exact rd39 rfl rfl)) <| c_ (cl_ Try.func42 (h := fun env => ⟨_, (of_any 1000000000000000000 (by omega) (by omega)), rfl⟩)) <| c_ (cl_ Try.func52 (h := fun env => ⟨_, ((wdiv_any u 1000000000000000000 (by unfold InW; omega) (by unfold InW; omega) (by omega)).eq (congrArg (fun z => vT3 (vW (u / 1000000000000000000)) (vW z) (vI 0)) h3)), rfl⟩)) <| c_ mv_ <| c_ ext_ <| c_ ext_ <| c_ ext_ <| c_ (al_ 3) <| c_ (al_ 4) <| c_ (sw_ 3 7 (hst := by exact fun _ _ _ hc => st39 rfl rfl rfl hc)) <| c_ (sw_ 4 8 (hst := by exact fun _ _ _ hc => st39 rfl rfl rfl hc)) <| c_ mv_ <| e_) (k := fun E2 ac wd h_2 => ?_)
  clear h_1
  refine then_n (wp_seq ?_)
  refine rg_ h_2 [[0],[1],[0,1,2],r_ 4,r_ 5,[0,1,2,3,5],[0,1,2,3,6],[7],[8],[0,1,2,3,4,7,8,9],[0,1,2,3,4,5,7,8,9,10],r_ 12] [K_ (vW (u / 1000000000000000000)), K_ (vW 86400), K_ (vT3 (vW dd) (vW ss) (vI 0)), K_ (vT3 (vW dd) (vW ss) (vI 0)), K_ (vW dd), K_ (vW ss), K_ (vI 0), KE_ fun env => vP (pb env 7) 0, KE_ fun env => vP (pb env 8) 0, none, none, K_ (vI 0)] (fun E3 => [(2, vP (pb E1 0) 0), (4, vP (pb E1 2) 0), (6, vP (pb E2 8) 0), (8, vP (pb E3 7) 0), (9, vP (pb E3 8) 0)]) (W := [{ i := 7, T := 39, c0 := [vI 0, .int .u64 0], s := some 9, c1 := fun _ => [vI (hi (dd)), .int .u64 (lo (dd))] }, { i := 8, T := 39, c0 := [vI 0, .int .u64 0], s := some 10, c1 := fun _ => [vI (hi (ss)), .int .u64 (lo (ss))] }]) (M' := fun E3 => [((pb E1 0), 59, [vI d, vI (hi (b)), .int .u64 (lo (b)), vI (hi (f)), .int .u64 (lo (f)), vI (hi (dayA)), .int .u64 (lo (dayA)), vI (hi (dayA + r)), .int .u64 (lo (dayA + r)), vI (hi (r)), .int .u64 (lo (r)), vI (hi (e)), .int .u64 (lo (e)), vI t]), ((pb E1 1), 39, [vI (hi (u)), .int .u64 (lo (u))]), ((pb E1 2), 36, [vI 0, vI 0, vI 0]), ((pb E2 7), 39, [vI (hi (u / 1000000000000000000)), .int .u64 (lo (u / 1000000000000000000))]), ((pb E2 8), 39, [vI (hi (aa)), .int .u64 (lo (aa))]), ((pb E3 7), 39, [vI (hi (dd)), .int .u64 (lo (dd))]), ((pb E3 8), 39, [vI (hi (ss)), .int .u64 (lo (ss))])]) (hs := c_ (ld_ 3 (hrd := by exact rd39 rfl rfl)) <| c_ (cl_ Try.func42 (h := fun env => ⟨_, (of_any 86400 (by omega) (by omega)), rfl⟩)) <| c_ (cl_ Try.func52 (h := fun env => ⟨_, ((wdiv_any (u / 1000000000000000000) 86400 (by unfold InW; omega) (by unfold InW; omega) (by omega)).eq (congrArg2 (fun y z => vT3 (vW y) (vW z) (vI 0)) h1 h2)), rfl⟩)) <| c_ mv_ <| c_ ext_ <| c_ ext_ <| c_ ext_ <| c_ (al_ 5) <| c_ (al_ 6) <| c_ (sw_ 5 7 (hst := by exact fun _ _ _ hc => st39 rfl rfl rfl hc)) <| c_ (sw_ 6 8 (hst := by exact fun _ _ _ hc => st39 rfl rfl rfl hc)) <| c_ mv_ <| e_) (k := fun E3 ac wd h_3 => ?_)
  clear h_2
  refine then_n (wp_seq ?_)
  refine rg_ h_3 [[0],[0,1],[0,1,2],r_ 4,[0,1,2,4],[0,1,2,3,5],r_ 7] [K_ (vW dd), K_ (vT2 (vI dd) (vI 0)), K_ (vT2 (vI dd) (vI 0)), K_ (vI dd), K_ (vI 0), K_ (vI dd), K_ (vI 0)] (fun E4 => [(2, vP (pb E1 0) 0), (4, vP (pb E1 2) 0), (6, vP (pb E2 8) 0), (9, vP (pb E3 8) 0), (11, vI dd)]) (hs := c_ (ld_ 5 (hrd := by exact rd39 rfl rfl)) <| c_ (cl_ Try.func53 (h := fun env => ⟨_, (wint_yes dd (by omega) (by omega)), rfl⟩)) <| c_ mv_ <| c_ ext_ <| c_ ext_ <| c_ mv_ <| c_ mv_ <| e_) (k := fun E4 ac wd h_4 => ?_)
  clear h_3
  refine then_n (wp_seq ?_)
  refine rg_ h_4 [[0],[0,1],[0,1,2],r_ 4,[0,1,2,4],[0,1,2,3,5],r_ 7] [K_ (vW ss), K_ (vT2 (vI ss) (vI 0)), K_ (vT2 (vI ss) (vI 0)), K_ (vI ss), K_ (vI 0), K_ (vI ss), K_ (vI 0)] (fun E5 => [(2, vP (pb E1 0) 0), (4, vP (pb E1 2) 0), (6, vP (pb E2 8) 0), (11, vI dd), (13, vI ss)]) (hs := c_ (ld_ 6 (hrd := by exact rd39 rfl rfl)) <| c_ (cl_ Try.func53 (h := fun env => ⟨_, (wint_yes ss (by omega) (by omega)), rfl⟩)) <| c_ mv_ <| c_ ext_ <| c_ ext_ <| c_ mv_ <| c_ mv_ <| e_) (k := fun E5 ac wd h_5 => ?_)
  clear h_4
  refine then_n (wp_seq ?_)
  refine rg_ h_5 [[0],[0,1],[0,1,2],r_ 4,[0,1,2,4],[0,1,2,3,5],r_ 7] [K_ (vW aa), K_ (vT2 (vI aa) (vI 0)), K_ (vT2 (vI aa) (vI 0)), K_ (vI aa), K_ (vI 0), K_ (vI aa), K_ (vI 0)] (fun E6 => [(2, vP (pb E1 0) 0), (4, vP (pb E1 2) 0), (11, vI dd), (13, vI ss), (15, vI aa)]) (hs := c_ (ld_ 4 (hrd := by exact rd39 rfl rfl)) <| c_ (cl_ Try.func53 (h := fun env => ⟨_, (wint_yes aa (by omega) (by omega)), rfl⟩)) <| c_ mv_ <| c_ ext_ <| c_ ext_ <| c_ mv_ <| c_ mv_ <| e_) (k := fun E6 ac wd h_6 => ?_)
  clear h_5
  refine then_n (wp_seq (wp_seq ?_))
  refine rg_ h_6 [[0],[1],[1,2],r_ 4] [K_ (vI dd), K_ (vP (pb E1 0) 13), K_ (vI t), K_ (.bool (decide (t ≤ dd)))] (fun E7 => [(4, vP (pb E1 2) 0), (11, vI dd), (13, vI ss), (15, vI aa), (49, .bool (decide (t ≤ dd)))]) (hs := c_ mv_ <| c_ (fa0 (vP (pb E1 0) 0)) <| c_ (ld_ 0 (hrd := by exact rd3 rfl)) <| c_ (bi0 (vI dd) (vI t)) <| e_) (k := fun E7 ac wd h_7 => ?_)
  clear h_6
  refine then_n ?_
  refine wp_cond_split (eval_tmp (h_7.g (t := 49) rfl)) (fun h => ?_) (fun h => ?_)
  refine rg_ h_7 [[0],[0,1],[2],[2,3],[0,1,4],r_ 6] [K_ (vI dd), K_ (vI (dd - 1)), K_ (vI ss), K_ (vI (ss + 86400)), K_ (vI (dd - 1)), K_ (vI (ss + 86400))] (fun E8 => [(4, vP (pb E1 2) 0), (11, vI (dd - 1)), (13, vI (ss + 86400)), (15, vI aa)]) (hs := c_ mv_ <| c_ (bi0 (vI dd) (vI 1)) <| c_ mv_ <| c_ (bi0 (vI ss) (vI 86400)) <| c_ mv_ <| c_ mv_ <| e_) (k := fun E8 ac wd h_8 => ?_)
  clear h_7
  refine then_n (wp_seq ?_)
  refine rg_ h_8 [[0],[1],[2],r_ 4,r_ 5] [K_ (vI (dd - 1)), K_ (vI (ss + 86400)), K_ (vI aa), K_ (vL (dd - 1) (ss + 86400) aa), none] (fun E9 => [(4, vP (pb E1 2) 0)]) (S := [⟨2, 4, fun _ => [vI (dd - 1), vI (ss + 86400), vI aa]⟩]) (M' := fun E9 => [((pb E1 0), 59, [vI d, vI (hi (b)), .int .u64 (lo (b)), vI (hi (f)), .int .u64 (lo (f)), vI (hi (dayA)), .int .u64 (lo (dayA)), vI (hi (dayA + r)), .int .u64 (lo (dayA + r)), vI (hi (r)), .int .u64 (lo (r)), vI (hi (e)), .int .u64 (lo (e)), vI t]), ((pb E1 1), 39, [vI (hi (u)), .int .u64 (lo (u))]), ((pb E1 2), 36, [vI (dd - 1), vI (ss + 86400), vI aa]), ((pb E2 7), 39, [vI (hi (u / 1000000000000000000)), .int .u64 (lo (u / 1000000000000000000))]), ((pb E2 8), 39, [vI (hi (aa)), .int .u64 (lo (aa))]), ((pb E3 7), 39, [vI (hi (dd)), .int .u64 (lo (dd))]), ((pb E3 8), 39, [vI (hi (ss)), .int .u64 (lo (ss))])]) (hs := c_ mv_ <| c_ mv_ <| c_ mv_ <| c_ (bd0 ([vI (dd - 1), vI (ss + 86400), vI aa])) <| c_ (se_ 2 (hst := by exact fun _ _ _ hc => st36 rfl rfl rfl rfl hc)) <| e_) (k := fun E9 ac wd h_9 => ?_)
  clear h_8
  refine then_n (wp_ret ?_)
  refine lvC (v := vL (dd - 1) (ss + 86400) aa) Try.results32 h_9 2 (rd36 rfl rfl rfl) ?_
  exact ⟨by rw [hres, if_pos (of_decide_eq_true h)], h_9.st.below⟩
  refine wp_skip (then_n (wp_seq ?_))
  refine rg_ h_7 [[0],[1],[2],r_ 4,r_ 5] [K_ (vI dd), K_ (vI ss), K_ (vI aa), K_ (vL dd ss aa), none] (fun E8 => [(4, vP (pb E1 2) 0)]) (S := [⟨2, 4, fun _ => [vI dd, vI ss, vI aa]⟩]) (M' := fun E8 => [((pb E1 0), 59, [vI d, vI (hi (b)), .int .u64 (lo (b)), vI (hi (f)), .int .u64 (lo (f)), vI (hi (dayA)), .int .u64 (lo (dayA)), vI (hi (dayA + r)), .int .u64 (lo (dayA + r)), vI (hi (r)), .int .u64 (lo (r)), vI (hi (e)), .int .u64 (lo (e)), vI t]), ((pb E1 1), 39, [vI (hi (u)), .int .u64 (lo (u))]), ((pb E1 2), 36, [vI dd, vI ss, vI aa]), ((pb E2 7), 39, [vI (hi (u / 1000000000000000000)), .int .u64 (lo (u / 1000000000000000000))]), ((pb E2 8), 39, [vI (hi (aa)), .int .u64 (lo (aa))]), ((pb E3 7), 39, [vI (hi (dd)), .int .u64 (lo (dd))]), ((pb E3 8), 39, [vI (hi (ss)), .int .u64 (lo (ss))])]) (hs := c_ mv_ <| c_ mv_ <| c_ mv_ <| c_ (bd0 ([vI dd, vI ss, vI aa])) <| c_ (se_ 2 (hst := by exact fun _ _ _ hc => st36 rfl rfl rfl rfl hc)) <| e_) (k := fun E8 ac wd h_8 => ?_)
  clear h_7
  refine then_n (wp_ret ?_)
  refine lvC (v := vL dd ss aa) Try.results32 h_8 2 (rd36 rfl rfl rfl) ?_
  exact ⟨by rw [hres, if_neg (of_decide_eq_false h)], h_8.st.below⟩
def lbl (t u : Int) : Value := if t ≤ splD u then vL (splD u - 1) (splS u + 86400) (splA u) else vL (splD u) (splS u) (splA u)
theorem plabel_any (d b f r e t u : Int) (hu : Near u) : Ret 32 #[vPc d b f r e t, vW u] (lbl t u) := plabel_core d b f r e t u _ _ _ _ hu rfl rfl rfl rfl
end Go.Proofs.Ytdfkghpgekmmlaa
/- Plain laws of layer 14: segments, one behind the other. No program here but for its words for values. Own work. -/
namespace Go.Proofs.Ytdfkghpgekmmlaa
set_option linter.unusedVariables false
set_option linter.unusedSimpArgs false

/-- a segment: its day, base, from, rate -/
structure Sg where
  d : Int
  b : Int
  f : Int
  r : Int
def sgi (l : List Sg) (i : Nat) : Sg := l.getD i ⟨0, 0, 0, 0⟩
def fS (s : Sg) (u : Int) : Int := fA (s.b * 100000000000) (jn s.f 0 0) (s.r * 100000000000) u
def gS (s : Sg) (t : Int) : Int := gA (s.b * 100000000000) (jn s.f 0 0) (s.r * 100000000000) t
/-- the day behind the last one of segment i -/
def untS (l : List Sg) (day : Int) (i : Nat) : Int := if i + 1 < l.length then (sgi l (i + 1)).d else day
/-- where segment i ends -/
def endS (l : List Sg) (day off : Int) (i : Nat) : Int := if i + 1 < l.length then fS (sgi l (i + 1)) (jn (sgi l (i + 1)).d 0 0) else jn day off 0
def begS (l : List Sg) (i : Nat) : Int := fS (sgi l i) (jn (sgi l i).d 0 0)
def szS (s : Sg) : Bool := wthn s.d (-1048576) 1048576 && wthn s.f (-1048576) 1048576 && wthn s.b (-1000000000) 1000000000 && wthn s.r 0 1000000
def szA (l : List Sg) (day : Int) (i : Nat) : Bool := szS (sgi l i) && decide ((sgi l i).d < untS l day i)
def stB (l : List Sg) (day off : Int) (i : Nat) : Bool := decide (fS (sgi l i) (jn (untS l day i - 1) 0 0) < endS l day off i) && decide (endS l day off i ≤ fS (sgi l i) (jn (untS l day i) 1 0))
def szH (l : List Sg) (day off : Int) : Bool := wthn l.length 1 32 && wthn day (-1048576) 1048576 && wthn off 0 1000
def szL (l : List Sg) (day off : Int) : Bool := szH l day off && (List.range l.length).all (szA l day)
/-- may segments be? -/
def mayS (l : List Sg) (day off : Int) : Bool := szL l day off && (List.range l.length).all (stB l day off)

theorem all_yes {n : Nat} {p : Nat → Bool} (h : ∀ i, i < n → p i = true) : (List.range n).all p = true := List.all_eq_true.2 fun i hi => h i (List.mem_range.1 hi)
theorem all_no {n i : Nat} {p : Nat → Bool} (hi : i < n) (h : p i = false) : (List.range n).all p = false := List.all_eq_false.2 ⟨i, List.mem_range.2 hi, by rw [h]; simp⟩
theorem all_at {n : Nat} {p : Nat → Bool} (h : (List.range n).all p = true) {i : Nat} (hi : i < n) : p i = true := List.all_eq_true.1 h i (List.mem_range.2 hi)
theorem wthn_iff {n l u : Int} : wthn n l u = true ↔ l ≤ n ∧ n ≤ u := by unfold wthn; simp

structure SgOk (s : Sg) : Prop where
  d0 : -1048576 ≤ s.d
  d1 : s.d ≤ 1048576
  f0 : -1048576 ≤ s.f
  f1 : s.f ≤ 1048576
  b0 : -1000000000 ≤ s.b
  b1 : s.b ≤ 1000000000
  r0 : 0 ≤ s.r
  r1 : s.r ≤ 1000000
theorem szS_ok {s : Sg} (h : szS s = true) : SgOk s := by
  simp only [szS, Bool.and_eq_true, wthn_iff] at h
  obtain ⟨⟨⟨⟨h1, h2⟩, h3, h4⟩, h5, h6⟩, h7, h8⟩ := h
  exact ⟨h1, h2, h3, h4, h5, h6, h7, h8⟩
structure LOk (l : List Sg) (day off : Int) : Prop where
  n0 : 0 < l.length
  n1 : l.length ≤ 32
  y0 : -1048576 ≤ day
  y1 : day ≤ 1048576
  o0 : 0 ≤ off
  o1 : off ≤ 1000
  seg : ∀ i, i < l.length → SgOk (sgi l i)
  unt : ∀ i, i < l.length → (sgi l i).d < untS l day i
theorem szL_ok {l : List Sg} {day off : Int} (h : szL l day off = true) : LOk l day off := by
  simp only [szL, szH, Bool.and_eq_true, wthn_iff] at h
  obtain ⟨⟨⟨⟨h1, h2⟩, h3, h4⟩, h5, h6⟩, h7⟩ := h
  have hs : ∀ i, i < l.length → szS (sgi l i) = true ∧ (sgi l i).d < untS l day i := fun i hi => by
    have := all_at h7 hi
    simpa [szA] using this
  exact ⟨by omega, by omega, h3, h4, h5, h6, fun i hi => szS_ok (hs i hi).1, fun i hi => (hs i hi).2⟩
structure MOk (l : List Sg) (day off : Int) : Prop extends LOk l day off where
  s0 : ∀ i, i < l.length → fS (sgi l i) (jn (untS l day i - 1) 0 0) < endS l day off i
  s1 : ∀ i, i < l.length → endS l day off i ≤ fS (sgi l i) (jn (untS l day i) 1 0)
theorem mayS_ok {l : List Sg} {day off : Int} (h : mayS l day off = true) : MOk l day off := by
  simp only [mayS, Bool.and_eq_true] at h
  have hs : ∀ i, i < l.length → stB l day off i = true := fun i hi => all_at h.2 hi
  refine ⟨szL_ok h.1, fun i hi => ?_, fun i hi => ?_⟩
  · have := hs i hi; simp only [stB, Bool.and_eq_true, decide_eq_true_eq] at this; exact this.1
  · have := hs i hi; simp only [stB, Bool.and_eq_true, decide_eq_true_eq] at this; exact this.2
theorem mayS_szL {l : List Sg} {day off : Int} (h : mayS l day off = true) : szL l day off = true := by
  simp only [mayS, Bool.and_eq_true] at h; exact h.1

/-! ### the loops' answers -/
/-- what 'sizes' asks of place i -/
def szR (l : List Sg) (i : Nat) : Bool := szS (sgi l i) && (Nat.beq i 0 || decide ((sgi l (i - 1)).d < (sgi l i).d))
theorem szR_szA {l : List Sg} {day : Int} (hn : 0 < l.length) : (decide ((sgi l (l.length - 1)).d < day) && (List.range l.length).all (szR l)) = (List.range l.length).all (szA l day) := by
  rw [Bool.eq_iff_iff]
  simp only [Bool.and_eq_true, decide_eq_true_eq]
  constructor
  · rintro ⟨h1, h2⟩
    refine all_yes fun i hi => ?_
    have hi2 := all_at h2 hi
    simp only [szR, Bool.and_eq_true] at hi2
    simp only [szA, Bool.and_eq_true, decide_eq_true_eq]
    refine ⟨hi2.1, ?_⟩
    unfold untS
    split
    · rename_i hlt
      have := all_at h2 hlt
      simp only [szR, Bool.and_eq_true, Bool.or_eq_true, decide_eq_true_eq, Nat.beq_eq] at this
      rcases this.2 with h3 | h3
      · omega
      · exact h3
    · rw [show i = l.length - 1 by omega]; exact h1
  · intro h
    have ha : ∀ i, i < l.length → szS (sgi l i) = true ∧ (sgi l i).d < untS l day i := fun i hi => by
      have := all_at h hi
      simpa [szA] using this
    refine ⟨?_, all_yes fun i hi => ?_⟩
    · have := (ha (l.length - 1) (by omega)).2
      unfold untS at this
      rw [if_neg (by omega)] at this
      exact this
    · simp only [szR, Bool.and_eq_true, Bool.or_eq_true, decide_eq_true_eq, Nat.beq_eq]
      refine ⟨(ha i hi).1, ?_⟩
      rcases Nat.eq_zero_or_pos i with h0 | h0
      · exact .inl h0
      · refine .inr ?_
        have := (ha (i - 1) (by omega)).2
        unfold untS at this
        rw [if_pos (by omega), show i - 1 + 1 = i by omega] at this
        exact this
/-- the last of the first n whose day is not behind x -/
def kS (l : List Sg) (x : Int) : Nat → Nat
  | 0 => 0
  | n + 1 => if (sgi l n).d ≤ x then n else kS l x n
/-- the first of n that does; n: none does -/
def fst1 (p : Nat → Bool) : Nat → Nat
  | 0 => 0
  | n + 1 => if fst1 p n < n then fst1 p n else if p n = true then n else n + 1
theorem fst1_le (p : Nat → Bool) (n : Nat) : fst1 p n ≤ n := by
  induction n with
  | zero => exact Nat.le_refl _
  | succ n ih => unfold fst1; split <;> (try split) <;> omega
theorem fst1_lt {p : Nat → Bool} {n i : Nat} (h : i < fst1 p n) : p i = false := by
  induction n with
  | zero => simp [fst1] at h
  | succ n ih =>
    have hle := fst1_le p n
    unfold fst1 at h
    split at h
    · exact ih h
    · split at h
      · exact ih (by omega)
      · rename_i h1 h2
        rcases Nat.lt_or_ge i n with h3 | h3
        · exact ih (by omega)
        · have : i = n := by omega
          subst this; simpa using h2
theorem fst1_at {p : Nat → Bool} {n : Nat} (h : fst1 p n < n) : p (fst1 p n) = true := by
  induction n with
  | zero => simp at h
  | succ n ih =>
    unfold fst1 at h ⊢
    split
    · rename_i h1; exact ih h1
    · split
      · rename_i h2; exact h2
      · rename_i h1 h2; rw [if_neg h1, if_neg h2] at h; omega
theorem fst1_eq {p : Nat → Bool} {n i : Nat} (hi : i < n) (h0 : ∀ j, j < i → p j = false) (h1 : p i = true) : fst1 p n = i := by
  have hle := fst1_le p n
  rcases Nat.lt_trichotomy (fst1 p n) i with h | h | h
  · have := fst1_at (p := p) (n := n) (by omega); rw [h0 _ h] at this; cases this
  · exact h
  · have := fst1_lt h; rw [h1] at this; cases this
theorem fst1_none {p : Nat → Bool} {n : Nat} (h0 : ∀ j, j < n → p j = false) : fst1 p n = n := by
  have hle := fst1_le p n
  rcases Nat.lt_or_ge (fst1 p n) n with h | h
  · have := fst1_at h; rw [h0 _ h] at this; cases this
  · omega

section
variable {l : List Sg} {day off : Int}
theorem LOk.asc (h : LOk l day off) {i j : Nat} (hij : i < j) (hj : j < l.length) : (sgi l i).d < (sgi l j).d := by
  induction j with
  | zero => omega
  | succ j ih =>
    have h1 := h.unt j (by omega)
    unfold untS at h1
    rw [if_pos (by omega)] at h1
    rcases Nat.lt_or_ge i j with h2 | h2
    · have := ih h2 (by omega); omega
    · rw [show i = j by omega]; exact h1
theorem LOk.unt_le (h : LOk l day off) {i j : Nat} (hij : i < j) (hj : j < l.length) : untS l day i ≤ (sgi l j).d := by
  unfold untS
  rw [if_pos (by omega)]
  rcases Nat.lt_or_ge (i + 1) j with h2 | h2
  · exact Int.le_of_lt (h.asc h2 hj)
  · rw [show i + 1 = j by omega]; exact Int.le_refl _
theorem LOk.unt_day (h : LOk l day off) {i : Nat} (hi : i < l.length) : untS l day i ≤ day := by
  have hl : (sgi l (l.length - 1)).d < day := by
    have := h.unt (l.length - 1) (by have := h.n0; omega)
    unfold untS at this
    rw [if_neg (by omega)] at this
    exact this
  unfold untS
  split
  · rename_i h1
    rcases Nat.lt_or_ge (i + 1) (l.length - 1) with h2 | h2
    · have := h.asc h2 (by omega); omega
    · rw [show i + 1 = l.length - 1 by omega]; omega
  · exact Int.le_refl _
theorem LOk.unt_ge (h : LOk l day off) {i : Nat} (hi : i < l.length) : -1048576 ≤ untS l day i := by
  have := h.unt i hi; have := (h.seg i hi).d0; omega
theorem LOk.d_lt (h : LOk l day off) {i : Nat} (hi : i < l.length) : (sgi l i).d < day := by
  have := h.unt i hi; have := h.unt_day hi; omega
/-- the one segment of a day -/
theorem LOk.one (h : LOk l day off) {x : Int} {i j : Nat} (hi : i < l.length) (hj : j < l.length) (h1 : (sgi l i).d ≤ x) (h2 : x < untS l day i) (h3 : (sgi l j).d ≤ x) (h4 : x < untS l day j) : i = j := by
  rcases Nat.lt_trichotomy i j with hc | hc | hc
  · have := h.unt_le hc hj; omega
  · exact hc
  · have := h.unt_le hc hi; omega
theorem kS_spec (h : LOk l day off) {x : Int} (h0 : (sgi l 0).d ≤ x) (n : Nat) (hn : n ≤ l.length) (hn0 : 0 < n) : kS l x n < n ∧ (sgi l (kS l x n)).d ≤ x ∧ ∀ j, kS l x n < j → j < n → x < (sgi l j).d := by
  induction n with
  | zero => omega
  | succ n ih =>
    unfold kS
    split
    · rename_i h1; exact ⟨by omega, h1, fun j hj hj2 => by omega⟩
    · rename_i h1
      rcases Nat.eq_zero_or_pos n with h2 | h2
      · subst h2; exact absurd h0 h1
      · obtain ⟨h3, h4, h5⟩ := ih (by omega) h2
        refine ⟨by omega, h4, fun j hj hj2 => ?_⟩
        rcases Nat.lt_or_ge j n with h6 | h6
        · exact h5 j hj h6
        · rw [show j = n by omega]; omega
theorem kS_in (h : LOk l day off) {x : Int} (h0 : (sgi l 0).d ≤ x) (h1 : x < day) : kS l x l.length < l.length ∧ (sgi l (kS l x l.length)).d ≤ x ∧ x < untS l day (kS l x l.length) := by
  obtain ⟨h2, h3, h4⟩ := kS_spec h h0 l.length (Nat.le_refl _) h.n0
  refine ⟨h2, h3, ?_⟩
  unfold untS
  split
  · rename_i h5; exact h4 _ (by omega) h5
  · exact h1
theorem kS_eq (h : LOk l day off) {x : Int} {i : Nat} (hi : i < l.length) (h2 : (sgi l i).d ≤ x) (h3 : x < untS l day i) : kS l x l.length = i := by
  have h0 : (sgi l 0).d ≤ x := by
    rcases Nat.eq_zero_or_pos i with h4 | h4
    · subst h4; exact h2
    · have := h.asc h4 hi; omega
  have hd := h.unt_day hi
  obtain ⟨h4, h5, h6⟩ := kS_in h h0 (by omega)
  exact h.one h4 hi h5 h6 h2 h3
/-- .. and the first one whose last day x is not behind -/
theorem fst_kS (h : LOk l day off) {x : Int} (h0 : (sgi l 0).d ≤ x) {i : Nat} (hi : i < l.length) (h1 : ∀ j, j < i → untS l day j ≤ x) (h2 : x < untS l day i) : i = kS l x l.length := by
  refine (kS_eq h hi ?_ h2).symm
  rcases Nat.eq_zero_or_pos i with h4 | h4
  · subst h4; exact h0
  · have := h1 (i - 1) (by omega)
    unfold untS at this
    rw [if_pos (by omega), show i - 1 + 1 = i by omega] at this
    exact this
end

/-! ### sizes -/
/-- a count of days that are not far -/
def Cn (u : Int) : Prop := -200000000000000000000000000000 ≤ u ∧ u ≤ 200000000000000000000000000000
theorem Cn.near {u : Int} (h : Cn u) : Near u := by unfold Cn at h; unfold Near; omega
theorem cn_jn {d s a : Int} (hd : -1048577 ≤ d) (hd1 : d ≤ 1048577) (hs : -172800 ≤ s) (hs1 : s ≤ 172800) (ha : 0 ≤ a) (ha1 : a ≤ 1000000000000000000) : Cn (jn d s a) := by unfold Cn jn; omega
theorem SgOk.pc {s : Sg} (h : SgOk s) : PcOk (s.b * 100000000000) (jn s.f 0 0) (s.r * 100000000000) := by
  have := h.b0; have := h.b1; have := h.f0; have := h.f1; have := h.r0; have := h.r1
  unfold PcOk jn; omega
theorem SgOk.ra {s : Sg} (h : SgOk s) : 0 ≤ s.r * 100000000000 := by have := h.r0; omega
theorem gain_le {b f r u : Int} (h : PcOk b f r) (h1 : -400000000000000000000000000000 ≤ u) (h2 : u ≤ 400000000000000000000000000000) : -600000000000000000000000 ≤ (u - f) * r / dayA ∧ (u - f) * r / dayA ≤ 600000000000000000000000 := by
  have := mul_abs (a := u - f) (b := r) (A := 500000000000000000000000000000) (B := 100000000000000000) (by unfold PcOk at h; omega) (by unfold PcOk at h; omega) (by unfold PcOk at h; omega) (by unfold PcOk at h; omega) (by omega)
  constructor
  · refine Int.le_ediv_of_mul_le dayA_pos ?_
    unfold dayA; omega
  · refine Int.ediv_le_of_le_mul dayA_pos ?_
    unfold dayA; omega
theorem fS_bd {s : Sg} (h : SgOk s) {u : Int} (hu : Cn u) : u - 700000000000000000000000 ≤ fS s u ∧ fS s u ≤ u + 700000000000000000000000 := by
  have h1 := gain_le (u := u) h.pc (by unfold Cn at hu; omega) (by unfold Cn at hu; omega)
  have h2 := h.pc
  unfold fS fA PcOk at *
  omega
theorem LOk.end_bd {l : List Sg} {day off : Int} (h : LOk l day off) {i : Nat} (hi : i < l.length) : -100000000000000000000000000000 ≤ endS l day off i ∧ endS l day off i ≤ 100000000000000000000000000000 := by
  unfold endS
  split
  · rename_i h1
    have hs := h.seg (i + 1) h1
    have h2 : Cn (jn (sgi l (i + 1)).d 0 0) := by have := hs.d0; have := hs.d1; exact cn_jn (by omega) (by omega) (by omega) (by omega) (by omega) (by omega)
    have h3 := fS_bd hs h2
    have := hs.d0; have := hs.d1
    unfold jn at *; omega
  · have := h.y0; have := h.y1; have := h.o0; have := h.o1
    unfold jn; omega
theorem fS_le {s : Sg} (h : SgOk s) {u v : Int} : fS s u ≤ fS s v ↔ u ≤ v := fA_le h.ra
theorem fS_lt {s : Sg} (h : SgOk s) {u v : Int} : fS s u < fS s v ↔ u < v := by
  have := fS_le h (u := v) (v := u); omega
theorem gS_spec {s : Sg} (h : SgOk s) (t u : Int) : fS s u ≤ t ↔ u ≤ gS s t := gA_spec h.ra t u
theorem gS_fS {s : Sg} (h : SgOk s) (u : Int) : gS s (fS s u) = u := gA_fA h.ra u
theorem fS_gS {s : Sg} (h : SgOk s) (t : Int) : fS s (gS s t) = t ∨ fS s (gS s t) = t - 1 := fA_gA h.ra h.pc.rd t
theorem gS_bd {s : Sg} (h : SgOk s) {t : Int} (h1 : -110000000000000000000000000000 ≤ t) (h2 : t ≤ 110000000000000000000000000000) : t - 700000000000000000000001 ≤ gS s t ∧ gS s t ≤ t + 700000000000000000000000 := by
  constructor
  · refine (gS_spec h t _).1 ?_
    have := fS_bd h (u := t - 700000000000000000000001) (by unfold Cn; omega); omega
  · rcases Int.lt_or_le (t + 700000000000000000000000) (gS s t) with hc | hc
    · have h3 := (gS_spec h t (t + 700000000000000000000000 + 1)).2 (by omega)
      have := fS_bd h (u := t + 700000000000000000000000 + 1) (by unfold Cn; omega); omega
    · exact hc

/-! ### instants of labels, labels of instants -/
def formS (s a : Int) : Bool := formB s a
def taiE (l : List Sg) (day off d s a : Int) : Int :=
  if formB s a = false then 1 else if d < (sgi l 0).d then 8 else if day ≤ d then 9
  else if (s = 86400 ∧ d + 1 ≠ untS l day (kS l d l.length)) ∨ endS l day off (kS l d l.length) ≤ fS (sgi l (kS l d l.length)) (jn d s a) then 6 else 0
def taiV (l : List Sg) (day off d s a : Int) : Int := if taiE l day off d s a = 0 then fS (sgi l (kS l d l.length)) (jn d s a) else 0
def lblD (t u : Int) : Int := if t ≤ splD u then splD u - 1 else splD u
def lblS (t u : Int) : Int := if t ≤ splD u then splS u + 86400 else splS u
theorem lbl_eq (t u : Int) : lbl t u = vL (lblD t u) (lblS t u) (splA u) := by unfold lbl lblD lblS; split <;> rfl
/-- which segment an instant is of -/
def iS (l : List Sg) (day off t : Int) : Nat := fst1 (fun i => decide (t < endS l day off i)) l.length
def labE (l : List Sg) (day off t : Int) : Int := if t < begS l 0 then 8 else if iS l day off t < l.length then 0 else 9
def labU (l : List Sg) (day off t : Int) : Int := gS (sgi l (iS l day off t)) t
def labD (l : List Sg) (day off t : Int) : Int := if labE l day off t = 0 then lblD (untS l day (iS l day off t)) (labU l day off t) else 0
def labS (l : List Sg) (day off t : Int) : Int := if labE l day off t = 0 then lblS (untS l day (iS l day off t)) (labU l day off t) else 0
def labA (l : List Sg) (day off t : Int) : Int := if labE l day off t = 0 then splA (labU l day off t) else 0

section
variable {l : List Sg} {day off : Int}
theorem MOk.beg_end (h : MOk l day off) {i : Nat} (hi : i < l.length) : begS l i < endS l day off i := by
  have h1 := h.s0 i hi
  have h2 := h.unt i hi
  have h3 : begS l i ≤ fS (sgi l i) (jn (untS l day i - 1) 0 0) := (fS_le (h.seg i hi)).2 (by unfold jn; omega)
  omega
theorem MOk.end_le (h : MOk l day off) {i j : Nat} (hij : i < j) (hj : j < l.length) : endS l day off i ≤ begS l j := by
  induction j with
  | zero => omega
  | succ j ih =>
    have h1 : endS l day off j = begS l (j + 1) := by unfold endS; rw [if_pos hj]; rfl
    rcases Nat.lt_or_ge i j with h2 | h2
    · have := ih h2 (by omega); have := h.beg_end (i := j) (by omega); omega
    · rw [show i = j by omega]; omega
theorem MOk.beg_le (h : MOk l day off) {j : Nat} (hj : j < l.length) : begS l 0 ≤ begS l j := by
  rcases Nat.eq_zero_or_pos j with h0 | h0
  · subst h0; exact Int.le_refl _
  · have := h.end_le h0 hj; have := h.beg_end (i := 0) (by omega); omega
theorem tai_ok (h : MOk l day off) {d s a : Int} (he : taiE l day off d s a = 0) :
    (0 ≤ s ∧ s ≤ 86400) ∧ (0 ≤ a ∧ a < 1000000000000000000) ∧ kS l d l.length < l.length ∧ (sgi l (kS l d l.length)).d ≤ d ∧ d < untS l day (kS l d l.length) ∧ (s = 86400 → d + 1 = untS l day (kS l d l.length)) ∧ fS (sgi l (kS l d l.length)) (jn d s a) < endS l day off (kS l d l.length) ∧ taiV l day off d s a = fS (sgi l (kS l d l.length)) (jn d s a) := by
  have hv : taiV l day off d s a = fS (sgi l (kS l d l.length)) (jn d s a) := by unfold taiV; rw [if_pos he]
  unfold taiE at he
  split at he
  · cases he
  rename_i h1
  split at he
  · cases he
  rename_i h2
  split at he
  · cases he
  rename_i h3
  split at he
  · cases he
  rename_i h4
  obtain ⟨k1, k2, k3⟩ := kS_in h.toLOk (x := d) (by omega) (by omega)
  have h5 : formB s a = true := by simpa using h1
  simp only [formB, Bool.and_eq_true, wthn_iff] at h5
  refine ⟨h5.1, ⟨h5.2.1, by omega⟩, k1, k2, k3, fun hs => ?_, ?_, hv⟩
  · rcases Decidable.em (d + 1 = untS l day (kS l d l.length)) with h6 | h6
    · exact h6
    · exact absurd (.inl ⟨hs, h6⟩) h4
  · have : ¬ endS l day off (kS l d l.length) ≤ fS (sgi l (kS l d l.length)) (jn d s a) := fun h6 => h4 (.inr h6)
    omega
theorem tai_mk (h : MOk l day off) {d s a : Int} {i : Nat} (hi : i < l.length) (h1 : 0 ≤ s ∧ s ≤ 86400) (h2 : 0 ≤ a ∧ a < 1000000000000000000) (h3 : (sgi l i).d ≤ d) (h4 : d < untS l day i) (h5 : s = 86400 → d + 1 = untS l day i) (h6 : fS (sgi l i) (jn d s a) < endS l day off i) :
    taiE l day off d s a = 0 ∧ taiV l day off d s a = fS (sgi l i) (jn d s a) := by
  have hk := kS_eq h.toLOk hi h3 h4
  have hf : formB s a = true := by simp only [formB, Bool.and_eq_true, wthn_iff]; omega
  have h0 : (sgi l 0).d ≤ d := by
    rcases Nat.eq_zero_or_pos i with h7 | h7
    · subst h7; exact h3
    · have := h.toLOk.asc h7 hi; omega
  have hd := h.toLOk.unt_day hi
  have he : taiE l day off d s a = 0 := by
    unfold taiE
    rw [if_neg (by rw [hf]; simp), if_neg (by omega), if_neg (by omega), hk, if_neg]
    rintro (⟨h7, h8⟩ | h7)
    · exact h8 (h5 h7)
    · omega
  refine ⟨he, ?_⟩
  unfold taiV
  rw [if_pos he, hk]
theorem lab_mk (h : MOk l day off) {t : Int} {i : Nat} (hi : i < l.length) (h1 : begS l i ≤ t) (h2 : t < endS l day off i) : labE l day off t = 0 ∧ iS l day off t = i := by
  have hI : iS l day off t = i := fst1_eq hi (fun j hj => by
    have := h.end_le hj hi
    exact decide_eq_false (by omega)) (decide_eq_true h2)
  refine ⟨?_, hI⟩
  have := h.beg_le hi
  unfold labE
  rw [if_neg (by omega), hI, if_pos hi]
theorem lab_ok (h : MOk l day off) {t : Int} (he : labE l day off t = 0) : iS l day off t < l.length ∧ begS l (iS l day off t) ≤ t ∧ t < endS l day off (iS l day off t) := by
  unfold labE at he
  split at he
  · cases he
  rename_i h1
  split at he
  · rename_i h2
    refine ⟨h2, ?_, by have := fst1_at h2; exact of_decide_eq_true this⟩
    rcases Nat.eq_zero_or_pos (iS l day off t) with h3 | h3
    · rw [h3]; omega
    · have h4 : iS l day off t - 1 < iS l day off t := by omega
      have := fst1_lt h4
      have h5 := of_decide_eq_false this
      unfold endS at h5
      rw [if_pos (by omega), show iS l day off t - 1 + 1 = iS l day off t by omega] at h5
      unfold begS; omega
  · cases he
/-- a label comes again out of its instant -/
theorem tai_lab (h : MOk l day off) {d s a : Int} (he : taiE l day off d s a = 0) : labE l day off (taiV l day off d s a) = 0 ∧ labD l day off (taiV l day off d s a) = d ∧ labS l day off (taiV l day off d s a) = s ∧ labA l day off (taiV l day off d s a) = a := by
  obtain ⟨hs, ha, hk, h1, h2, h3, h4, h5⟩ := tai_ok h he
  obtain ⟨k, hkk⟩ : ∃ k, k = kS l d l.length := ⟨_, rfl⟩
  rw [← hkk] at hk h1 h2 h3 h4 h5
  have hb : begS l k ≤ taiV l day off d s a := by rw [h5]; exact (fS_le (h.seg k hk)).2 (by unfold jn; omega)
  obtain ⟨e1, e2⟩ := lab_mk h hk hb (by rw [h5]; exact h4)
  have e3 : labU l day off (taiV l day off d s a) = jn d s a := by unfold labU; rw [e2, h5, gS_fS (h.seg k hk)]
  refine ⟨e1, ?_⟩
  unfold labD labS labA
  rw [if_pos e1, if_pos e1, if_pos e1, e2, e3]
  rcases Int.lt_or_le s 86400 with hc | hc
  · obtain ⟨f1, f2, f3⟩ := spl_jn (d := d) hs.1 hc ha.1 ha.2
    unfold lblD lblS
    rw [f1, f2, f3, if_neg (by omega), if_neg (by omega)]
    exact ⟨rfl, rfl, rfl⟩
  · have hs' : s = 86400 := by omega
    have hd := h3 hs'
    have e4 : jn d s a = jn (d + 1) 0 a := by unfold jn; omega
    obtain ⟨f1, f2, f3⟩ := spl_jn (d := d + 1) (s := 0) (a := a) (by omega) (by omega) ha.1 ha.2
    unfold lblD lblS
    rw [e4, f1, f2, f3, if_pos (by omega), if_pos (by omega)]
    exact ⟨by omega, by omega, rfl⟩
/-- an instant is that of its label, or one attosecond behind it -/
theorem lab_tai (h : MOk l day off) {t : Int} (he : labE l day off t = 0) :
    taiE l day off (labD l day off t) (labS l day off t) (labA l day off t) = 0 ∧ (taiV l day off (labD l day off t) (labS l day off t) (labA l day off t) = t ∨ taiV l day off (labD l day off t) (labS l day off t) (labA l day off t) = t - 1) := by
  obtain ⟨h1, h2, h3⟩ := lab_ok h he
  have eD : labD l day off t = lblD (untS l day (iS l day off t)) (labU l day off t) := by unfold labD; rw [if_pos he]
  have eS : labS l day off t = lblS (untS l day (iS l day off t)) (labU l day off t) := by unfold labS; rw [if_pos he]
  have eA : labA l day off t = splA (labU l day off t) := by unfold labA; rw [if_pos he]
  have eU : labU l day off t = gS (sgi l (iS l day off t)) t := rfl
  rw [eD, eS, eA]
  obtain ⟨i, hi⟩ : ∃ i, i = iS l day off t := ⟨_, rfl⟩
  obtain ⟨u, hu⟩ : ∃ u, u = labU l day off t := ⟨_, rfl⟩
  rw [← hi] at h1 h2 h3 eU ⊢
  rw [← hu] at eU ⊢
  have hs := h.seg i h1
  have u0 : jn (sgi l i).d 0 0 ≤ u := by rw [eU]; exact (gS_spec hs t _).1 h2
  have u1 : fS (sgi l i) u ≤ t := by rw [eU]; exact (gS_spec hs t _).2 (Int.le_refl _)
  have u2 : u < jn (untS l day i) 1 0 := by
    have := h.s1 i h1
    exact (fS_lt hs).1 (by omega)
  have u3 : jn (splD u) (splS u) (splA u) = u := jn_spl u
  have u4 := spl_in u
  have hor : fS (sgi l i) u = t ∨ fS (sgi l i) u = t - 1 := by rw [eU]; exact fS_gS hs t
  have hd0 : (sgi l i).d ≤ splD u := by unfold jn at u0; unfold splD; omega
  have hd1 : splD u ≤ untS l day i := by unfold jn at u2; unfold splD; omega
  have hun := h.unt i h1
  have key : ∀ d s, d = lblD (untS l day i) u → s = lblS (untS l day i) u → (0 ≤ s ∧ s ≤ 86400) ∧ (sgi l i).d ≤ d ∧ d < untS l day i ∧ (s = 86400 → d + 1 = untS l day i) ∧ jn d s (splA u) = u := by
    intro d s hd hs2
    unfold lblD at hd
    unfold lblS at hs2
    by_cases hc : untS l day i ≤ splD u
    · rw [if_pos hc] at hd hs2
      have : splD u = untS l day i := by omega
      have hs0 : splS u = 0 := by
        have h7 : splD u * 86400 + splS u = u / 1000000000000000000 := by unfold splD splS; omega
        have h8 : u / 1000000000000000000 < untS l day i * 86400 + 1 := by unfold jn at u2; omega
        omega
      refine ⟨by omega, by omega, by omega, fun _ => by omega, ?_⟩
      rw [hd, hs2, ← u3]
      obtain ⟨p, hp⟩ : ∃ p, p = splD u := ⟨_, rfl⟩
      rw [u3, ← hp]
      have : jn p (splS u) (splA u) = u := by rw [hp]; exact u3
      unfold jn at *; omega
    · rw [if_neg hc] at hd hs2
      refine ⟨by omega, by omega, by omega, fun h => by omega, ?_⟩
      rw [hd, hs2]; exact u3
  obtain ⟨k1, k2, k3, k4, k5⟩ := key _ _ rfl rfl
  obtain ⟨r1, r2⟩ := tai_mk h h1 k1 ⟨u4.2.2.1, u4.2.2.2⟩ k2 k3 k4 (by rw [k5]; omega)
  refine ⟨r1, ?_⟩
  rw [r2, k5]
  exact hor
/-- is a label ahead of another one? -/
def befL (d s a d' s' a' : Int) : Bool := if d = d' then (if s = s' then decide (a < a') else decide (s < s')) else decide (d < d')
theorem tai_rises (h : MOk l day off) {d s a d' s' a' : Int} (hb : befL d s a d' s' a' = true) (he : taiE l day off d s a = 0) (he' : taiE l day off d' s' a' = 0) : taiV l day off d s a < taiV l day off d' s' a' := by
  obtain ⟨hs, ha, hk, h1, h2, h3, h4, h5⟩ := tai_ok h he
  obtain ⟨hs', ha', hk', h1', h2', h3', h4', h5'⟩ := tai_ok h he'
  rw [h5, h5']
  obtain ⟨k, hkk⟩ : ∃ k, k = kS l d l.length := ⟨_, rfl⟩
  obtain ⟨k', hkk'⟩ : ∃ k, k = kS l d' l.length := ⟨_, rfl⟩
  rw [← hkk] at hk h1 h2 h3 h4 h5 ⊢
  rw [← hkk'] at hk' h1' h2' h3' h4' h5' ⊢
  have hdd : d ≤ d' := by
    unfold befL at hb
    split at hb
    · omega
    · have := of_decide_eq_true hb; omega
  rcases Nat.lt_trichotomy k k' with hc | hc | hc
  · have e1 := h.end_le hc hk'
    have e2 : begS l k' ≤ fS (sgi l k') (jn d' s' a') := (fS_le (h.seg k' hk')).2 (by unfold jn; omega)
    omega
  · subst hc
    refine (fS_lt (h.seg k hk)).2 ?_
    unfold befL at hb
    split at hb
    · rename_i hd
      split at hb
      · have := of_decide_eq_true hb; unfold jn; omega
      · have := of_decide_eq_true hb; unfold jn; omega
    · have := of_decide_eq_true hb
      have : s < 86400 := by
        rcases Int.lt_or_le s 86400 with h6 | h6
        · exact h6
        · have := h3 (by omega); omega
      unfold jn; omega
  · have := h.toLOk.unt_le hc hk; omega
end
/-- the published ones -/
def pubS : List Sg := [⟨37300, 14228180, 37300, 12960⟩, ⟨37512, 13728180, 37300, 12960⟩, ⟨37665, 18458580, 37665, 11232⟩, ⟨38334, 19458580, 37665, 11232⟩, ⟨38395, 32401300, 38761, 12960⟩, ⟨38486, 33401300, 38761, 12960⟩, ⟨38639, 34401300, 38761, 12960⟩, ⟨38761, 35401300, 38761, 12960⟩, ⟨38820, 36401300, 38761, 12960⟩, ⟨38942, 37401300, 38761, 12960⟩, ⟨39004, 38401300, 38761, 12960⟩, ⟨39126, 43131700, 39126, 25920⟩, ⟨39887, 42131700, 39126, 25920⟩]
end Go.Proofs.Ytdfkghpgekmmlaa
/- Words for segments in memory. Own work. -/
namespace Go.Proofs.Ytdfkghpgekmmlaa
open Go.RowKit
set_option linter.unusedVariables false
set_option linter.unusedSimpArgs false
abbrev vSg (s : Sg) : Value := .agg #[.int .i64 s.d, .int .i64 s.b, .int .i64 s.f, .int .i64 s.r]
/-- cell i of a row of segments -/
def sgC (l : List Sg) (i : Nat) : Value := vi (match i % 4 with | 0 => (sgi l (i / 4)).d | 1 => (sgi l (i / 4)).b | 2 => (sgi l (i / 4)).f | _ => (sgi l (i / 4)).r)
theorem sgC_0 (l : List Sg) (j : Nat) : sgC l (j * 4) = vi (sgi l j).d := by unfold sgC; rw [show j * 4 % 4 = 0 by omega, show j * 4 / 4 = j by omega]; rfl
theorem sgC_1 (l : List Sg) (j : Nat) : sgC l (j * 4 + 1) = vi (sgi l j).b := by unfold sgC; rw [show (j * 4 + 1) % 4 = 1 by omega, show (j * 4 + 1) / 4 = j by omega]; rfl
theorem sgC_2 (l : List Sg) (j : Nat) : sgC l (j * 4 + 2) = vi (sgi l j).f := by unfold sgC; rw [show (j * 4 + 2) % 4 = 2 by omega, show (j * 4 + 2) / 4 = j by omega]; rfl
theorem sgC_3 (l : List Sg) (j : Nat) : sgC l (j * 4 + 3) = vi (sgi l j).r := by unfold sgC; rw [show (j * 4 + 3) % 4 = 3 by omega, show (j * 4 + 3) / 4 = j by omega]; rfl
/-- a slice that reads as the segments l -/
abbrev SegU (w : World) (v : Value) (l : List Sg) : Prop := RowU w v l.length 4 (sgC l)
/-- .. in a block of its own type -/
abbrev SegT (w : World) (v : Value) (l : List Sg) : Prop := RowT 25 w v l.length 4 (sgC l)
/-- numbers of 64 bits -/
def Sg64 (s : Sg) : Prop := In64 s.d ∧ In64 s.b ∧ In64 s.f ∧ In64 s.r
end Go.Proofs.Ytdfkghpgekmmlaa
/- The arguments of a law opened: rates (a list of segments, two numbers), a label, a wide number. Own work. -/
namespace Go.Proofs.Ytdfkghpgekmmlaa
open Go.RowKit Go.ChangeShapes Go.WideShapes Go.ChangeAt Go.Deep Go.Joins
set_option linter.unusedVariables false
set_option linter.unusedSimpArgs false
theorem ratesCells : Try.prog.cellsOf 34 = 3 := by kernel_rfl
theorem segCells : Try.prog.cellsOf 25 = 4 := by kernel_rfl
theorem labelCells : Try.prog.cellsOf 36 = 3 := by kernel_rfl
theorem wideCells : Try.prog.cellsOf 39 = 2 := by kernel_rfl
theorem cell_blk {w : World} {b o : Nat} {v : Value} (h : w.cell? ⟨b, o, none⟩ = some v) : ∃ (cur : Array Value) (T : TypeId) (fz : Nat × Nat), w.heap[b]? = some (.cells cur T fz) ∧ cur[o]? = some v := by
  unfold World.cell? at h
  simp only at h
  split at h
  · rename_i c T fz hb
    exact ⟨c, T, fz, hb, by simpa using h⟩
  · cases h
section
variable {H : Type} {enc : TypeId × Value → H} {w : World}
set_option maxRecDepth 100000 in
theorem open_segs {sl : Value} {y : DataW H × List MemPlace} {n : Nat} (h : DataW.trod enc Try.prog w 0 (fun _ => true) true n 22 [sl] = some y) :
    ∃ A c l, sl = .slice A l.length c ∧ SegU w (.slice A l.length c) l := by
  rcases open_slice_fields Try.underlying22 Try.underlying25 (by kernel_rfl) segCells h with ⟨hcs, _⟩ | ⟨a, len, cap, m, D, Pl, hcs, _, hlc, hcm, hm, hx, hf⟩
  · simp only [List.cons.injEq, and_true] at hcs
    subst hcs
    exact ⟨none, 0, [], rfl, none, 0, rfl, Nat.le_refl _, by simp, .inl rfl⟩
  · simp only [List.cons.injEq, and_true] at hcs
    subst hcs
    simp only [if_true] at hm
    subst hm
    have hel : ∀ i, i < len → ∃ e : Sg, w.cell? (a.add (i * 4)) = some (vi e.d) ∧ w.cell? (a.add (i * 4 + 1)) = some (vi e.b) ∧ w.cell? (a.add (i * 4 + 2)) = some (vi e.f) ∧ w.cell? (a.add (i * 4 + 3)) = some (vi e.r) := by
      intro i hi
      obtain ⟨ys, n', _, _, _, hfj⟩ := hf i (by omega)
      obtain ⟨v0, y0, c0, _, t0⟩ := hfj 0 _ rfl
      obtain ⟨v1, y1, c1, _, t1⟩ := hfj 1 _ rfl
      obtain ⟨v2, y2, c2, _, t2⟩ := hfj 2 _ rfl
      obtain ⟨v3, y3, c3, _, t3⟩ := hfj 3 _ rfl
      obtain ⟨z0, e0, _, w0⟩ := DataW.trod_int Try.underlying3 t0
      obtain ⟨z1, e1, _, w1⟩ := DataW.trod_int Try.underlying3 t1
      obtain ⟨z2, e2, _, w2⟩ := DataW.trod_int Try.underlying3 t2
      obtain ⟨z3, e3, _, w3⟩ := DataW.trod_int Try.underlying3 t3
      simp only [List.cons.injEq, and_true] at e0 e1 e2 e3
      subst e0 e1 e2 e3
      exact ⟨⟨z0, z1, z2, z3⟩, c0, c1, c2, c3⟩
    obtain ⟨es, hl, hes⟩ := list_of (⟨0, 0, 0, 0⟩ : Sg) (fun i e => w.cell? (a.add (i * 4)) = some (vi e.d) ∧ w.cell? (a.add (i * 4 + 1)) = some (vi e.b) ∧ w.cell? (a.add (i * 4 + 2)) = some (vi e.f) ∧ w.cell? (a.add (i * 4 + 3)) = some (vi e.r)) len hel
    subst hl
    refine ⟨some a, m, es, rfl, some a, m, rfl, by omega, by unfold maxLen at hcm; omega, ?_⟩
    rcases Nat.eq_zero_or_pos es.length with h0 | h0
    · exact .inl h0
    · obtain ⟨b, off, spot⟩ := a
      have c0 := (hes 0 h0).1
      have hspot : spot = none := by simpa [Addr.add] using World.cell?_spot c0
      subst hspot
      have c0' := c0
      rw [ad_add'] at c0'
      obtain ⟨cur, T, fz, hb, _⟩ := cell_blk c0'
      refine .inr ⟨b, off, T, cur, fz, rfl, hb, fun i hi => ?_⟩
      have get : ∀ j v, w.cell? ((⟨b, off, none⟩ : Addr).add j) = some v → cur[off + j]? = some v := by
        intro j v hv
        rw [ad_add'] at hv
        obtain ⟨cur', T', fz', hb', hv'⟩ := cell_blk hv
        rw [hb] at hb'
        simp only [Option.some.injEq, Obj.cells.injEq] at hb'
        obtain ⟨rfl, _⟩ := hb'
        exact hv'
      have hq := hes (i / 4) (by omega)
      obtain ⟨q0, q1, q2, q3⟩ := hq
      obtain ⟨j, q, hq4, rfl⟩ : ∃ j q, q < 4 ∧ i = j * 4 + q := ⟨i / 4, i % 4, by omega, by omega⟩
      rw [show (j * 4 + q) / 4 = j by omega] at q0 q1 q2 q3
      match q, hq4 with
      | 0, _ => rw [Nat.add_zero, sgC_0]; exact get _ _ q0
      | 1, _ => rw [sgC_1]; exact get _ _ q1
      | 2, _ => rw [sgC_2]; exact get _ _ q2
      | 3, _ => rw [sgC_3]; exact get _ _ q3
set_option maxRecDepth 100000 in
theorem open_rates {r : Reach} {b0 : Nat} {v : Value} {d : DataW H} {p : List MemPlace} (hv : Value.okWide Try.prog w r b0 34 v) (h : DataW.Trod enc Try.prog w 0 (fun _ => true) true 34 v d p) :
    ∃ A c l y o, v = .agg #[.slice A l.length c, vI y, vI o] ∧ SegU w (.slice A l.length c) l ∧ I64 y ∧ I64 o := by
  obtain ⟨v0, v1, v2, y0, y1, y2, n, rfl, _, hp, h0, h1, h2⟩ := open_agg3 Try.underlying34 (by kernel_rfl) ratesCells hv h
  obtain ⟨u, e0, _, w0⟩ := DataW.trod_int Try.underlying3 h1
  obtain ⟨x, e1, _, w1⟩ := DataW.trod_int Try.underlying3 h2
  simp only [List.cons.injEq, and_true] at e0 e1
  subst e0 e1
  obtain ⟨A, c, l, rfl, hl⟩ := open_segs h0
  exact ⟨A, c, l, u, x, rfl, hl, wf_I64 w0, wf_I64 w1⟩
set_option maxRecDepth 100000 in
theorem open_label {r : Reach} {b0 : Nat} {v : Value} {d : DataW H} {p : List MemPlace} (hv : Value.okWide Try.prog w r b0 36 v) (h : DataW.Trod enc Try.prog w 0 (fun _ => true) true 36 v d p) :
    ∃ a b c, v = vL a b c ∧ I64 a ∧ I64 b ∧ I64 c := by
  obtain ⟨v0, v1, v2, y0, y1, y2, n, rfl, _, hp, h0, h1, h2⟩ := open_agg3 Try.underlying36 (by kernel_rfl) labelCells hv h
  obtain ⟨u, e0, _, w0⟩ := DataW.trod_int Try.underlying3 h0
  obtain ⟨x, e1, _, w1⟩ := DataW.trod_int Try.underlying3 h1
  obtain ⟨y, e2, _, w2⟩ := DataW.trod_int Try.underlying3 h2
  simp only [List.cons.injEq, and_true] at e0 e1 e2
  subst e0 e1 e2
  exact ⟨u, x, y, rfl, wf_I64 w0, wf_I64 w1, wf_I64 w2⟩
set_option maxRecDepth 100000 in
theorem open_wide {r : Reach} {b0 : Nat} {v : Value} {d : DataW H} {p : List MemPlace} (hv : Value.okWide Try.prog w r b0 39 v) (h : DataW.Trod enc Try.prog w 0 (fun _ => true) true 39 v d p) :
    ∃ z, v = vW z ∧ InW z := by
  obtain ⟨v0, v1, y0, y1, n, rfl, _, hp, h0, h1⟩ := open_agg2 Try.underlying39 (by kernel_rfl) wideCells hv h
  obtain ⟨u, e0, _, w0⟩ := DataW.trod_int Try.underlying2 h0
  obtain ⟨x, e1, _, w1⟩ := DataW.trod_int Try.underlying37 h1
  simp only [List.cons.injEq, and_true] at e0 e1
  subst e0 e1
  have h2 := bounds_i64 w0
  have h3 := bounds_u64 w1
  refine ⟨u * 18446744073709551616 + x, ?_, by unfold InW; omega⟩
  rw [show vW (u * 18446744073709551616 + x) = .agg #[.int .i64 u, .int .u64 x] by
    unfold vW hi lo
    rw [show (u * 18446744073709551616 + x) / 18446744073709551616 = u by omega, show (u * 18446744073709551616 + x) % 18446744073709551616 = x by omega]]
end
end Go.Proofs.Ytdfkghpgekmmlaa
/- Words for a Rubber in memory. Own work. -/
namespace Go.Proofs.Ytdfkghpgekmmlaa
open Go.RowKit
set_option linter.unusedVariables false
set_option linter.unusedSimpArgs false
theorem cmp3_Z (a b : Int) : cmp3 a b = cmpZ a b := by unfold cmp3 cmpZ; split <;> (try split) <;> (try split) <;> omega
theorem wcmpZ (a b : Int) (ha : InW a) (hb : InW b) : Ret 31 #[vW a, vW b] (vI (cmpZ a b)) := fun w => by
  have := wcmp_any a b ha hb w
  rw [cmp3_Z] at this
  exact this
/-- the cells of piece i -/
def pcL (l : List Sg) (day off : Int) (i : Nat) : List Value :=
  [vI (sgi l i).d, vI (hi ((sgi l i).b * 100000000000)), .int .u64 (lo ((sgi l i).b * 100000000000)), vI (hi (jn (sgi l i).f 0 0)), .int .u64 (lo (jn (sgi l i).f 0 0)), vI (hi dayA), .int .u64 (lo dayA), vI (hi (dayA + (sgi l i).r * 100000000000)), .int .u64 (lo (dayA + (sgi l i).r * 100000000000)), vI (hi ((sgi l i).r * 100000000000)), .int .u64 (lo ((sgi l i).r * 100000000000)), vI (hi (endS l day off i)), .int .u64 (lo (endS l day off i)), vI (untS l day i)]
def pcC (l : List Sg) (day off : Int) (i : Nat) : Value := (pcL l day off (i / 14)).getD (i % 14) undef
theorem pcC_at (l : List Sg) (day off : Int) (j q : Nat) (hq : q < 14) : pcC l day off (j * 14 + q) = (pcL l day off j).getD q undef := by
  unfold pcC; rw [show (j * 14 + q) / 14 = j by omega, show (j * 14 + q) % 14 = q by omega]
abbrev PcT (w : World) (v : Value) (l : List Sg) (day off : Int) : Prop := RowT 59 w v l.length 14 (pcC l day off)
/-- a Rubber at block b, its pieces in block g -/
structure RubA (w : World) (b g c : Nat) (l : List Sg) (day off : Int) : Prop where
  hb : w.heap[b]? = some (.cells #[.slice (some ⟨g, 0, none⟩) l.length c] 57 (0, 0))
  hp : PcT w (.slice (some ⟨g, 0, none⟩) l.length c) l day off
theorem RubA.grown {w w' : World} {b g c : Nat} {l : List Sg} {day off : Int} (h : RubA w b g c l day off) (hg : w.grownBy w' none) : RubA w' b g c l day off :=
  ⟨by rw [hg.block b (lt_of_some h.hb) (by simp)]; exact h.hb, h.hp.grown hg⟩
theorem RubA.cell {w : World} {b g c : Nat} {l : List Sg} {day off : Int} (h : RubA w b g c l day off) : w.cell? ⟨b, 0, none⟩ = some (.slice (some ⟨g, 0, none⟩) l.length c) := by
  simp [World.cell?, h.hb]
theorem RubA.els {w : World} {b g c : Nat} {l : List Sg} {day off : Int} (h : RubA w b g c l day off) : Els w (.slice (some ⟨g, 0, none⟩) l.length c) l.length 14 (pcC l day off) := h.hp.els
theorem RubA.keep {w w' : World} {b g c : Nat} {l : List Sg} {day off : Int} (h : RubA w b g c l day off) {ex : Option Nat} (hk : KeepT [57, 59] ex w w') (hb : ex ≠ some b) (hg : ex ≠ some g) : RubA w' b g c l day off :=
  ⟨by rw [hk b _ _ _ h.hb rfl hb]; exact h.hb, h.hp.keep (Ts := [57, 59]) rfl hk (fun k hk' e => hg (by rw [hk']; simpa [Value.ownBlock] using e.symm))⟩
/-- v is a Rubber of these segments; off ex -/
def IsR (ex : Option Nat) (w : World) (v : Value) (l : List Sg) (day off : Int) : Prop := ∃ b g c, v = vP b 0 ∧ RubA w b g c l day off ∧ ex ≠ some b ∧ ex ≠ some g
theorem IsR.keep {ex : Option Nat} {w w' : World} {v : Value} {l : List Sg} {day off : Int} (h : IsR ex w v l day off) (hk : KeepT [57, 59] ex w w') : IsR ex w' v l day off := by
  obtain ⟨b, g, c, e, h1, h2, h3⟩ := h
  exact ⟨b, g, c, e, h1.keep hk h2 h3, h2, h3⟩
theorem IsR.form {ex : Option Nat} {w : World} {v : Value} {l : List Sg} {day off : Int} (h : IsR ex w v l day off) : v = vP (ptrB v) 0 := by
  obtain ⟨b, g, c, rfl, _⟩ := h; rfl
theorem IsR.at {ex : Option Nat} {w : World} {v : Value} {l : List Sg} {day off : Int} (h : IsR ex w v l day off) : ∃ g c, RubA w (ptrB v) g c l day off := by
  obtain ⟨b, g, c, rfl, h1, _⟩ := h; exact ⟨g, c, h1⟩
end Go.Proofs.Ytdfkghpgekmmlaa
/- epactref05: Join, In, Small, Split (printed by my walk.py) -/
namespace Go.Proofs.Ytdfkghpgekmmlaa
open Go.RowKit
set_option linter.unusedVariables false
set_option linter.unusedSimpArgs false
attribute [local go_sem] vN bT bF rS vW vM vL vT2 vT3 vP vI execOp Act.eval evC bigF vB hi_zero lo_zero Try.underlying36 Try.underlying46

set_option maxRecDepth 100000 in
set_option maxHeartbeats 8000000 in
theorem Join_core (w0 : World) (d s x : Int) (hd0 : -9223372036854775808 ≤ d) (hd1 : d < 9223372036854775808) (hs0 : -9223372036854775808 ≤ s) (hs1 : s < 9223372036854775808) (hx0 : -9223372036854775808 ≤ x) (hx1 : x < 9223372036854775808) : Calls Try.prog 23 #[vL d s x] w0 fun e w' => ∃ v, e = .returned v ∧ Below w0.heap.size w0 w' ∧ BigN w0.heap.size w' v ((d * 86400 + s) * 1000000000000000000 + x) := by
  have hst := St.start w0 (Θ := fun _ => True) (fun _ _ => trivial)
  refine en_ Try.func23 hst 20 [(0, vL d s x)] (fun ac h => ?_)
  replace h := h.facts
  refine wp_seq ?_
  refine rf_ h [[0],[1]] [KE_ fun env => vP (pb env 0) 0, KE_ fun env => vP (pb env 1) 0] (fun E1 => [(1, vP (pb E1 0) 0), (2, vP (pb E1 1) 0)]) (W := [{ i := 0, T := 36, c0 := [vI d, vI s, vI x] }, { i := 1, T := 46, c0 := [bF, .slice none 0 0] }]) (M' := fun E1 => [((pb E1 0), 36, [vI d, vI s, vI x]), ((pb E1 1), 46, [bF, .slice none 0 0])]) (hs := c_ (bx0 0 (vL d s x)) <| c_ (al_ 1) <| e_) (k := fun E1 ac wd h_1 => ?_)
  clear h
  refine then_n (wp_seq ?_)
  refine rf_ h_1 [[0],[0,1],[0,1,2],r_ 4,r_ 5,[5],[5,6],r_ 8,r_ 9,[9],r_ 11] [K_ (vP (pb E1 0) 0), K_ (vI d), KE_ fun env => bigF d (env 2), KE_ fun env => bigF 86400 (env 3), KE_ fun env => bigF (d * 86400) (env 4), K_ (vP (pb E1 0) 1), K_ (vI s), KE_ fun env => bigF s (env 7), KE_ fun env => bigF (d * 86400 + s) (env 8), KE_ fun env => vP (pb env 9) 0, none] (fun E2 => [(1, vP (pb E1 0) 0), (2, vP (pb E1 1) 0), (3, vP (pb E2 9) 0)]) (W := [{ i := 9, T := 46, c0 := [bF, .slice none 0 0], s := some 10, c1 := fun env => [.bool (decide (d * 86400 + s < 0)), rS (d * 86400 + s) ((bA (env 8))) ((bC (env 8)))] }]) (F := [(2, fun env w => BigN w0.heap.size w (env 2) d), (3, fun env w => BigN w0.heap.size w (env 3) 86400), (4, fun env w => BigN w0.heap.size w (env 4) (d * 86400)), (7, fun env w => BigN w0.heap.size w (env 7) s), (8, fun env w => BigN w0.heap.size w (env 8) (d * 86400 + s))]) (L1 := fun E2 => [fun w => BigN w0.heap.size w (E2 2) d, fun w => BigN w0.heap.size w (E2 3) 86400, fun w => BigN w0.heap.size w (E2 4) (d * 86400), fun w => BigN w0.heap.size w (E2 7) s, fun w => BigN w0.heap.size w (E2 8) (d * 86400 + s)]) (M' := fun E2 => [((pb E1 0), 36, [vI d, vI s, vI x]), ((pb E1 1), 46, [bF, .slice none 0 0]), ((pb E2 9), 46, [.bool (decide (d * 86400 + s < 0)), rS (d * 86400 + s) ((bA (E2 8))) ((bC (E2 8)))])]) (hs := c_ (fa0 (vP (pb E1 0) 0)) <| c_ (ld_ 0 (hrd := by exact rd3 rfl)) <| c_ (cb_ Try.func24 d (h := fun _ env _ wd hA => ⟨_, Int_any wd d (by omega) (by omega), rfl⟩)) <| c_ (cb_ Try.func24 86400 (h := fun _ env _ wd hA => ⟨_, Int_any wd 86400 (by omega) (by omega), rfl⟩)) <| c_ (cb_ Try.func34 (d * 86400) (h := fun _ env _ wd hA => ⟨_, Mul_any wd (decide (d < 0)) (bA (env 2)) (bC (env 2)) d rfl (At.bigN hA 2 rfl rfl rfl) (by unfold Sm; omega) (decide (86400 < 0)) (bA (env 3)) (bC (env 3)) 86400 rfl (At.bigN hA 3 rfl rfl rfl) (by unfold Sm; omega), rfl⟩)) <| c_ (fa0 (vP (pb E1 0) 0)) <| c_ (ld_ 0 (hrd := by exact rd3 rfl)) <| c_ (cb_ Try.func24 s (h := fun _ env _ wd hA => ⟨_, Int_any wd s (by omega) (by omega), rfl⟩)) <| c_ (cb_ Try.func22 (d * 86400 + s) (h := fun _ env _ wd hA => ⟨_, Add_any wd (decide (d * 86400 < 0)) (bA (env 4)) (bC (env 4)) (d * 86400) rfl (At.bigN hA 4 rfl rfl rfl) (by unfold Sm; omega) (decide (s < 0)) (bA (env 7)) (bC (env 7)) s rfl (At.bigN hA 7 rfl rfl rfl) (by unfold Sm; omega), rfl⟩)) <| c_ (al_ 2) <| c_ (sw_ 2 9 (hst := by exact fun _ _ _ hc => st46 rfl rfl rfl hc)) <| e_) (k := fun E2 ac wd h_2 => ?_)
  clear h_1
  refine then_n (wp_seq ?_)
  refine rf_ h_2 [[0],[1],[0,1,2],[3],[3,4],r_ 6,r_ 7,r_ 8] [K_ (bigF (d * 86400 + s) (E2 8)), KE_ fun env => bigF 1000000000000000000 (env 1), KE_ fun env => bigF ((d * 86400 + s) * 1000000000000000000) (env 2), K_ (vP (pb E1 0) 2), K_ (vI x), KE_ fun env => bigF x (env 5), KE_ fun env => bigF ((d * 86400 + s) * 1000000000000000000 + x) (env 6), none] (fun E3 => [(2, vP (pb E1 1) 0)]) (S := [⟨1, 7, fun env => [.bool (decide ((d * 86400 + s) * 1000000000000000000 + x < 0)), rS ((d * 86400 + s) * 1000000000000000000 + x) ((bA (env 6))) ((bC (env 6)))]⟩]) (F := [(1, fun env w => BigN w0.heap.size w (env 1) 1000000000000000000), (2, fun env w => BigN w0.heap.size w (env 2) ((d * 86400 + s) * 1000000000000000000)), (5, fun env w => BigN w0.heap.size w (env 5) x), (6, fun env w => BigN w0.heap.size w (env 6) ((d * 86400 + s) * 1000000000000000000 + x))]) (L1 := fun E3 => [fun w => BigN w0.heap.size w (E2 2) d, fun w => BigN w0.heap.size w (E2 3) 86400, fun w => BigN w0.heap.size w (E2 4) (d * 86400), fun w => BigN w0.heap.size w (E2 7) s, fun w => BigN w0.heap.size w (E2 8) (d * 86400 + s), fun w => BigN w0.heap.size w (E3 1) 1000000000000000000, fun w => BigN w0.heap.size w (E3 2) ((d * 86400 + s) * 1000000000000000000), fun w => BigN w0.heap.size w (E3 5) x, fun w => BigN w0.heap.size w (E3 6) ((d * 86400 + s) * 1000000000000000000 + x)]) (M' := fun E3 => [((pb E1 0), 36, [vI d, vI s, vI x]), ((pb E1 1), 46, [.bool (decide ((d * 86400 + s) * 1000000000000000000 + x < 0)), rS ((d * 86400 + s) * 1000000000000000000 + x) ((bA (E3 6))) ((bC (E3 6)))]), ((pb E2 9), 46, [.bool (decide (d * 86400 + s < 0)), rS (d * 86400 + s) ((bA (E2 8))) ((bC (E2 8)))])]) (hs := c_ (ld_ 2 (hrd := by exact rd46 rfl rfl)) <| c_ (cb_ Try.func24 1000000000000000000 (h := fun _ env _ wd hA => ⟨_, Int_any wd 1000000000000000000 (by omega) (by omega), rfl⟩)) <| c_ (cb_ Try.func34 ((d * 86400 + s) * 1000000000000000000) (h := fun _ env _ wd hA => ⟨_, Mul_any wd (decide (d * 86400 + s < 0)) (bA (E2 8)) (bC (E2 8)) (d * 86400 + s) rfl (Facts.bigN (hA.j.st.now).1 4 rfl) (by unfold Sm; omega) (decide (1000000000000000000 < 0)) (bA (env 1)) (bC (env 1)) 1000000000000000000 rfl (At.bigN hA 1 rfl rfl rfl) (by unfold Sm; omega), rfl⟩)) <| c_ (fa0 (vP (pb E1 0) 0)) <| c_ (ld_ 0 (hrd := by exact rd3 rfl)) <| c_ (cb_ Try.func24 x (h := fun _ env _ wd hA => ⟨_, Int_any wd x (by omega) (by omega), rfl⟩)) <| c_ (cb_ Try.func22 ((d * 86400 + s) * 1000000000000000000 + x) (h := fun _ env _ wd hA => ⟨_, Add_any wd (decide ((d * 86400 + s) * 1000000000000000000 < 0)) (bA (env 2)) (bC (env 2)) ((d * 86400 + s) * 1000000000000000000) rfl (At.bigN hA 2 rfl rfl rfl) (by unfold Sm; omega) (decide (x < 0)) (bA (env 5)) (bC (env 5)) x rfl (At.bigN hA 5 rfl rfl rfl) (by unfold Sm; omega), rfl⟩)) <| c_ (se_ 1 (hst := by exact fun _ _ _ hc => st46 rfl rfl rfl hc)) <| e_) (k := fun E3 ac wd h_3 => ?_)
  clear h_2
  refine then_n (wp_ret ?_)
  refine lvC (v := bigF ((d * 86400 + s) * 1000000000000000000 + x) (E3 6)) Try.results23 h_3 1 (rd46 rfl rfl) ?_
  exact ⟨_, rfl, h_3.st.below, BigN.mk rfl rfl (Facts.bN h_3.st.now 8 rfl)⟩
theorem Join_any (w0 : World) (d s x : Int) (hd0 : -9223372036854775808 ≤ d) (hd1 : d < 9223372036854775808) (hs0 : -9223372036854775808 ≤ s) (hs1 : s < 9223372036854775808) (hx0 : -9223372036854775808 ≤ x) (hx1 : x < 9223372036854775808) : Calls Try.prog 23 #[vL d s x] w0 fun e w' => ∃ v, e = .returned v ∧ Below w0.heap.size w0 w' ∧ BigN w0.heap.size w' v (jn d s x) := Join_core w0 d s x hd0 hd1 hs0 hs1 hx0 hx1
theorem bsame_yes (w0 : World) (p : Bool) (A0 : Option Addr) (c0 : Nat) (x : Int) (hp : p = decide (x < 0)) (hr : Row w0 (.slice A0 (digs x).length c0) (digs x)) (q : Bool) (B0 : Option Addr) (k0 : Nat) (y : Int) (hq : q = decide (y < 0)) (hr2 : Row w0 (.slice B0 (digs y).length k0) (digs y)) (e : x = y := by rfl) : Calls Try.prog 13 #[.agg #[.bool (p), .slice A0 ((digs x).length) c0], .agg #[.bool (q), .slice B0 ((digs y).length) k0]] w0 fun e w' => e = .returned (.bool true) ∧ Below w0.heap.size w0 w' := by
  have := Same_any w0 p A0 c0 x hp hr q B0 k0 y hq hr2
  rw [decide_eq_true e] at this
  exact this
end Go.Proofs.Ytdfkghpgekmmlaa
/- epactref14: unit, F, in, Until, End (printed by my walk.py) -/
namespace Go.Proofs.Ytdfkghpgekmmlaa
open Go.RowKit
set_option linter.unusedVariables false
set_option linter.unusedSimpArgs false
attribute [local go_sem] vN bT bF rS vSg vW vM vL vT2 vT3 vP vI execOp Act.eval evC bigF vB hi_zero lo_zero Try.underlying25 Try.underlying36 Try.underlying46

theorem BigN.eq {B : Nat} {w : World} {v : Value} {z z' : Int} (h : BigN B w v z) (e : z = z') : BigN B w v z' := e ▸ h

set_option maxRecDepth 100000 in
set_option maxHeartbeats 8000000 in
theorem runit_any (w0 : World) (n : Int) (h0 : -9223372036854775808 ≤ n) (h1 : n < 9223372036854775808) : Calls Try.prog 50 #[vI n] w0 fun e w' => ∃ v, e = .returned v ∧ Below w0.heap.size w0 w' ∧ BigN w0.heap.size w' v (n * 100000000000) := by
  have hst := St.start w0 (Θ := fun _ => True) (fun _ _ => trivial)
  refine en_ Try.func50 hst 7 [(0, vI n)] (fun ac h => ?_)
  replace h := h.facts
  refine wp_seq ?_
  refine rf_ h [[0]] [KE_ fun env => vP (pb env 0) 0] (fun E1 => [(0, vI n), (2, vP (pb E1 0) 0)]) (W := [{ i := 0, T := 46, c0 := [bF, .slice none 0 0] }]) (M' := fun E1 => [((pb E1 0), 46, [bF, .slice none 0 0])]) (hs := c_ (al_ 0) <| e_) (k := fun E1 ac wd h_1 => ?_)
  clear h
  refine then_n (wp_seq ?_)
  refine rf_ h_1 (tri 5) [K_ (vI n), KE_ fun env => bigF n (env 1), KE_ fun env => bigF 100000000000 (env 2), KE_ fun env => bigF (n * 100000000000) (env 3), none] (fun E2 => [(2, vP (pb E1 0) 0)]) (S := [⟨0, 4, fun env => [.bool (decide (n * 100000000000 < 0)), rS (n * 100000000000) ((bA (env 3))) ((bC (env 3)))]⟩]) (F := [(1, fun env w => BigN w0.heap.size w (env 1) n), (2, fun env w => BigN w0.heap.size w (env 2) 100000000000), (3, fun env w => BigN w0.heap.size w (env 3) (n * 100000000000))]) (L1 := fun E2 => [fun w => BigN w0.heap.size w (E2 1) n, fun w => BigN w0.heap.size w (E2 2) 100000000000, fun w => BigN w0.heap.size w (E2 3) (n * 100000000000)]) (M' := fun E2 => [((pb E1 0), 46, [.bool (decide (n * 100000000000 < 0)), rS (n * 100000000000) ((bA (E2 3))) ((bC (E2 3)))])]) (hs := c_ mv_ <| c_ (cb_ Try.func24 n (h := fun _ env _ wd hA => ⟨_, Int_any wd n (by omega) (by omega), rfl⟩)) <| c_ (cb_ Try.func24 100000000000 (h := fun _ env _ wd hA => ⟨_, Int_any wd 100000000000 (by omega) (by omega), rfl⟩)) <| c_ (cb_ Try.func34 (n * 100000000000) (h := fun _ env _ wd hA => ⟨_, Mul_any wd (decide (n < 0)) (bA (env 1)) (bC (env 1)) n rfl (At.bigN hA 1 rfl rfl rfl) (by unfold Sm; omega) (decide (100000000000 < 0)) (bA (env 2)) (bC (env 2)) 100000000000 rfl (At.bigN hA 2 rfl rfl rfl) (by unfold Sm; omega), rfl⟩)) <| c_ (se_ 0 (hst := by exact fun _ _ _ hc => st46 rfl rfl rfl hc)) <| e_) (k := fun E2 ac wd h_2 => ?_)
  clear h_1
  refine then_n (wp_ret ?_)
  refine lvC (v := bigF (n * 100000000000) (E2 3)) Try.results50 h_2 0 (rd46 rfl rfl) ?_
  exact ⟨_, rfl, h_2.st.below, BigN.mk rfl rfl (Facts.bN h_2.st.now 2 rfl)⟩
theorem F_sm {s : Sg} (hs : SgOk s) {u : Int} (hu0 : -1000000000000000000000000000000000000000000000000000000000000 ≤ u) (hu1 : u ≤ 1000000000000000000000000000000000000000000000000000000000000) : Sm u ∧ Sm (jn s.f 0 0) ∧ Sm (s.r * 100000000000 * (u - jn s.f 0 0)) ∧ Sm (s.r * 100000000000 * (u - jn s.f 0 0) / jn 1 0 0) := by
  have h1 := hs.f0; have h2 := hs.f1; have h3 := hs.r0; have h4 := hs.r1
  have hj : -100000000000000000000000000000 ≤ jn s.f 0 0 ∧ jn s.f 0 0 ≤ 100000000000000000000000000000 := by unfold jn; omega
  have hm := mul_abs (a := s.r * 100000000000) (b := u - jn s.f 0 0) (A := 100000000000000000) (B := 10000000000000000000000000000000000000000000000000000000000000) (by omega) (by omega) (by omega) (by omega) (by omega)
  have e : jn 1 0 0 = 86400000000000000000000 := by unfold jn; omega
  refine ⟨by unfold Sm; omega, by unfold Sm; omega, by unfold Sm; omega, ?_⟩
  rw [e]
  unfold Sm
  constructor
  · exact Int.le_ediv_of_mul_le (by omega) (by omega)
  · exact Int.ediv_le_of_le_mul (by omega) (by omega)
set_option maxRecDepth 100000 in
set_option maxHeartbeats 8000000 in
theorem F_any (w0 : World) (s : Sg) (hs : SgOk s) (p : Bool) (A0 : Option Addr) (c0 : Nat) (u : Int) (hp : p = decide (u < 0)) (hr : Row w0 (.slice A0 (digs u).length c0) (digs u)) (hu0 : -1000000000000000000000000000000000000000000000000000000000000 ≤ u) (hu1 : u ≤ 1000000000000000000000000000000000000000000000000000000000000) : Calls Try.prog 29 #[vSg s, .agg #[.bool (p), .slice A0 ((digs u).length) c0]] w0 fun e w' => ∃ v, e = .returned v ∧ Below w0.heap.size w0 w' ∧ BigN w0.heap.size w' v (fS s u) := by
  obtain ⟨hsu, hsj, hsm, hsg⟩ := F_sm hs hu0 hu1
  have h1 := hs.f0; have h2 := hs.f1; have h3 := hs.r0; have h4 := hs.r1; have h5 := hs.b0; have h6 := hs.b1
  have hj : -100000000000000000000000000000 ≤ jn s.f 0 0 ∧ jn s.f 0 0 ≤ 100000000000000000000000000000 := by unfold jn; omega
  have hd0 : 0 < jn 1 0 0 := by unfold jn; omega
  have hsd : Sm (jn 1 0 0) := by unfold jn Sm; omega
  have hst := St.start w0 (Θ := fun _ => True) (fun _ _ => trivial)
  refine en_ Try.func29 hst 32 [(0, vSg s), (1, .agg #[.bool (p), .slice A0 ((digs u).length) c0])] (fun ac h => ?_)
  replace h := h.facts
  refine wp_seq ?_
  refine rf_ h [[0],[1],[2]] [KE_ fun env => vP (pb env 0) 0, KE_ fun env => vP (pb env 1) 0, KE_ fun env => vP (pb env 2) 0] (fun E1 => [(2, vP (pb E1 0) 0), (3, vP (pb E1 1) 0), (4, vP (pb E1 2) 0)]) (W := [{ i := 0, T := 25, c0 := [vI (s.d), vI (s.b), vI (s.f), vI (s.r)] }, { i := 1, T := 46, c0 := [.bool (p), rS u A0 c0] }, { i := 2, T := 46, c0 := [bF, .slice none 0 0] }]) (M' := fun E1 => [((pb E1 0), 25, [vI (s.d), vI (s.b), vI (s.f), vI (s.r)]), ((pb E1 1), 46, [.bool (p), rS u A0 c0]), ((pb E1 2), 46, [bF, .slice none 0 0])]) (hs := c_ (bx0 0 (vSg s)) <| c_ (bx0 1 (.agg #[.bool (p), rS u A0 c0])) <| c_ (al_ 2) <| e_) (k := fun E1 ac wd h_1 => ?_)
  clear h
  refine then_n (wp_seq ?_)
  refine rf_ h_1 [[0],[0,1],[2],r_ 4] [K_ (vL 1 0 0), KE_ fun env => bigF (jn 1 0 0) (env 1), KE_ fun env => vP (pb env 2) 0, none] (fun E2 => [(2, vP (pb E1 0) 0), (3, vP (pb E1 1) 0), (4, vP (pb E1 2) 0), (5, vP (pb E2 2) 0)]) (W := [{ i := 2, T := 46, c0 := [bF, .slice none 0 0], s := some 3, c1 := fun env => [.bool (decide (jn 1 0 0 < 0)), rS (jn 1 0 0) ((bA (env 1))) ((bC (env 1)))] }]) (F := [(1, fun env w => BigN w0.heap.size w (env 1) (jn 1 0 0))]) (L1 := fun E2 => [fun w => BigN w0.heap.size w (E2 1) (jn 1 0 0)]) (M' := fun E2 => [((pb E1 0), 25, [vI (s.d), vI (s.b), vI (s.f), vI (s.r)]), ((pb E1 1), 46, [.bool (p), rS u A0 c0]), ((pb E1 2), 46, [bF, .slice none 0 0]), ((pb E2 2), 46, [.bool (decide (jn 1 0 0 < 0)), rS (jn 1 0 0) ((bA (E2 1))) ((bC (E2 1)))])]) (hs := c_ (bd0 ([vI 1])) <| c_ (cb_ Try.func23 (jn 1 0 0) (h := fun _ env _ wd hA => ⟨_, Join_any wd 1 0 0 (by omega) (by omega) (by omega) (by omega) (by omega) (by omega), rfl⟩)) <| c_ (al_ 3) <| c_ (sw_ 3 2 (hst := by exact fun _ _ _ hc => st46 rfl rfl rfl hc)) <| e_) (k := fun E2 ac wd h_2 => ?_)
  clear h_1
  refine then_n (wp_seq ?_)
  refine rf_ h_2 [[0],[0,1],[0,1,2],[3],[4],[4,5],[4,5,6],[0,1,2,4,5,6,7],r_ 9,r_ 10,[10],r_ 12,r_ 13,r_ 14,[0,1,2,3,4,5,6,7,8,9,10,11,12,14],[15],[16],[0,1,2,3,4,5,6,7,8,9,10,11,12,13,15,16,17],r_ 19] [K_ (vP (pb E1 0) 3), K_ (vI (s.r)), KE_ fun env => bigF (s.r * 100000000000) (env 2), K_ (.agg #[.bool (p), rS u A0 c0]), K_ (vP (pb E1 0) 2), K_ (vI (s.f)), K_ (vL s.f 0 0), KE_ fun env => bigF (jn s.f 0 0) (env 7), KE_ fun env => bigF (u - jn s.f 0 0) (env 8), KE_ fun env => bigF (s.r * 100000000000 * (u - jn s.f 0 0)) (env 9), K_ (bigF (jn 1 0 0) (E2 1)), KE_ fun env => vT2 (bigF (s.r * 100000000000 * (u - jn s.f 0 0) / jn 1 0 0) (tp (env 11) 0)) (bigF (s.r * 100000000000 * (u - jn s.f 0 0) % jn 1 0 0) (tp (env 11) 1)), KE_ fun env => vT2 (bigF (s.r * 100000000000 * (u - jn s.f 0 0) / jn 1 0 0) (tp (env 11) 0)) (bigF (s.r * 100000000000 * (u - jn s.f 0 0) % jn 1 0 0) (tp (env 11) 1)), KE_ fun env => bigF (s.r * 100000000000 * (u - jn s.f 0 0) / jn 1 0 0) (tp (env 11) 0), KE_ fun env => bigF (s.r * 100000000000 * (u - jn s.f 0 0) % jn 1 0 0) (tp (env 11) 1), KE_ fun env => vP (pb env 15) 0, KE_ fun env => vP (pb env 16) 0, none, none] (fun E3 => [(2, vP (pb E1 0) 0), (3, vP (pb E1 1) 0), (4, vP (pb E1 2) 0), (6, vP (pb E3 15) 0)]) (W := [{ i := 15, T := 46, c0 := [bF, .slice none 0 0], s := some 17, c1 := fun env => [.bool (decide (s.r * 100000000000 * (u - jn s.f 0 0) / jn 1 0 0 < 0)), rS (s.r * 100000000000 * (u - jn s.f 0 0) / jn 1 0 0) ((bA (tp (env 11) 0))) ((bC (tp (env 11) 0)))] }, { i := 16, T := 46, c0 := [bF, .slice none 0 0], s := some 18, c1 := fun env => [.bool (decide (s.r * 100000000000 * (u - jn s.f 0 0) % jn 1 0 0 < 0)), rS (s.r * 100000000000 * (u - jn s.f 0 0) % jn 1 0 0) ((bA (tp (env 11) 1))) ((bC (tp (env 11) 1)))] }]) (F := [(2, fun env w => BigN w0.heap.size w (env 2) (s.r * 100000000000)), (7, fun env w => BigN w0.heap.size w (env 7) (jn s.f 0 0)), (8, fun env w => BigN w0.heap.size w (env 8) (u - jn s.f 0 0)), (9, fun env w => BigN w0.heap.size w (env 9) (s.r * 100000000000 * (u - jn s.f 0 0))), (11, fun env w => DivX w (env 11) (s.r * 100000000000 * (u - jn s.f 0 0) / jn 1 0 0) (s.r * 100000000000 * (u - jn s.f 0 0) % jn 1 0 0))]) (L1 := fun E3 => [fun w => BigN w0.heap.size w (E2 1) (jn 1 0 0), fun w => BigN w0.heap.size w (E3 2) (s.r * 100000000000), fun w => BigN w0.heap.size w (E3 7) (jn s.f 0 0), fun w => BigN w0.heap.size w (E3 8) (u - jn s.f 0 0), fun w => BigN w0.heap.size w (E3 9) (s.r * 100000000000 * (u - jn s.f 0 0)), fun w => DivX w (E3 11) (s.r * 100000000000 * (u - jn s.f 0 0) / jn 1 0 0) (s.r * 100000000000 * (u - jn s.f 0 0) % jn 1 0 0)]) (M' := fun E3 => [((pb E1 0), 25, [vI (s.d), vI (s.b), vI (s.f), vI (s.r)]), ((pb E1 1), 46, [.bool (p), rS u A0 c0]), ((pb E1 2), 46, [bF, .slice none 0 0]), ((pb E2 2), 46, [.bool (decide (jn 1 0 0 < 0)), rS (jn 1 0 0) ((bA (E2 1))) ((bC (E2 1)))]), ((pb E3 15), 46, [.bool (decide (s.r * 100000000000 * (u - jn s.f 0 0) / jn 1 0 0 < 0)), rS (s.r * 100000000000 * (u - jn s.f 0 0) / jn 1 0 0) ((bA (tp (E3 11) 0))) ((bC (tp (E3 11) 0)))]), ((pb E3 16), 46, [.bool (decide (s.r * 100000000000 * (u - jn s.f 0 0) % jn 1 0 0 < 0)), rS (s.r * 100000000000 * (u - jn s.f 0 0) % jn 1 0 0) ((bA (tp (E3 11) 1))) ((bC (tp (E3 11) 1)))])]) (hs := c_ (fa0 (vP (pb E1 0) 0)) <| c_ (ld_ 0 (hrd := by exact rd3 rfl)) <| c_ (cb_ Try.func50 (s.r * 100000000000) (h := fun _ env _ wd hA => ⟨_, runit_any wd s.r (by omega) (by omega), rfl⟩)) <| c_ (ld_ 1 (hrd := by exact rd46 rfl rfl)) <| c_ (fa0 (vP (pb E1 0) 0)) <| c_ (ld_ 0 (hrd := by exact rd3 rfl)) <| c_ (bd0 ([vI (s.f)])) <| c_ (cb_ Try.func23 (jn s.f 0 0) (h := fun _ env _ wd hA => ⟨_, Join_any wd s.f 0 0 (by omega) (by omega) (by omega) (by omega) (by omega) (by omega), rfl⟩)) <| c_ (cb_ Try.func51 (u - jn s.f 0 0) (h := fun _ env _ wd hA => ⟨_, Sub_any wd p A0 c0 u hp (hr.grown hA.j.st.gr) hsu (decide (jn s.f 0 0 < 0)) (bA (env 7)) (bC (env 7)) (jn s.f 0 0) rfl (At.bigN hA 7 rfl rfl rfl) hsj, rfl⟩)) <| c_ (cb_ Try.func34 (s.r * 100000000000 * (u - jn s.f 0 0)) (h := fun _ env _ wd hA => ⟨_, Mul_any wd (decide (s.r * 100000000000 < 0)) (bA (env 2)) (bC (env 2)) (s.r * 100000000000) rfl (At.bigN hA 2 rfl rfl rfl) (by unfold Sm; omega) (decide (u - jn s.f 0 0 < 0)) (bA (env 8)) (bC (env 8)) (u - jn s.f 0 0) rfl (At.bigN hA 8 rfl rfl rfl) (by unfold Sm; omega), rfl⟩)) <| c_ (ld_ 3 (hrd := by exact rd46 rfl rfl)) <| c_ (cf_ Try.func49 (fun v w => DivX w v (s.r * 100000000000 * (u - jn s.f 0 0) / jn 1 0 0) (s.r * 100000000000 * (u - jn s.f 0 0) % jn 1 0 0)) (divF (s.r * 100000000000 * (u - jn s.f 0 0) / jn 1 0 0) (s.r * 100000000000 * (u - jn s.f 0 0) % jn 1 0 0)) (h := fun _ env _ wd hA => ⟨_, toD (Div_any wd (decide (s.r * 100000000000 * (u - jn s.f 0 0) < 0)) (bA (env 9)) (bC (env 9)) (s.r * 100000000000 * (u - jn s.f 0 0)) rfl (At.bigN hA 9 rfl rfl rfl) hsm (decide (jn 1 0 0 < 0)) (bA (E2 1)) (bC (E2 1)) (jn 1 0 0) rfl (Facts.bigN (hA.j.st.now).1 0 rfl) hsd hd0), rfl⟩)) <| c_ mv_ <| c_ ext_ <| c_ ext_ <| c_ (al_ 4) <| c_ (al_ 5) <| c_ (sw_ 4 15 (hst := by exact fun _ _ _ hc => st46 rfl rfl rfl hc)) <| c_ (sw_ 5 16 (hst := by exact fun _ _ _ hc => st46 rfl rfl rfl hc)) <| e_) (k := fun E3 ac wd h_3 => ?_)
  clear h_2
  refine then_n (wp_seq ?_)
  refine rf_ h_3 [[0],[1],[1,2],[1,2,3],r_ 5,[5],r_ 7,r_ 8] [K_ (.agg #[.bool (p), rS u A0 c0]), K_ (vP (pb E1 0) 1), K_ (vI (s.b)), KE_ fun env => bigF (s.b * 100000000000) (env 3), KE_ fun env => bigF (u + s.b * 100000000000) (env 4), K_ (bigF (s.r * 100000000000 * (u - jn s.f 0 0) / jn 1 0 0) (tp (E3 11) 0)), KE_ fun env => bigF (u + s.b * 100000000000 + s.r * 100000000000 * (u - jn s.f 0 0) / jn 1 0 0) (env 6), none] (fun E4 => [(4, vP (pb E1 2) 0)]) (S := [⟨2, 7, fun env => [.bool (decide (u + s.b * 100000000000 + s.r * 100000000000 * (u - jn s.f 0 0) / jn 1 0 0 < 0)), rS (u + s.b * 100000000000 + s.r * 100000000000 * (u - jn s.f 0 0) / jn 1 0 0) ((bA (env 6))) ((bC (env 6)))]⟩]) (F := [(3, fun env w => BigN w0.heap.size w (env 3) (s.b * 100000000000)), (4, fun env w => BigN w0.heap.size w (env 4) (u + s.b * 100000000000)), (6, fun env w => BigN w0.heap.size w (env 6) (u + s.b * 100000000000 + s.r * 100000000000 * (u - jn s.f 0 0) / jn 1 0 0))]) (L1 := fun E4 => [fun w => BigN w0.heap.size w (E2 1) (jn 1 0 0), fun w => BigN w0.heap.size w (E3 2) (s.r * 100000000000), fun w => BigN w0.heap.size w (E3 7) (jn s.f 0 0), fun w => BigN w0.heap.size w (E3 8) (u - jn s.f 0 0), fun w => BigN w0.heap.size w (E3 9) (s.r * 100000000000 * (u - jn s.f 0 0)), fun w => DivX w (E3 11) (s.r * 100000000000 * (u - jn s.f 0 0) / jn 1 0 0) (s.r * 100000000000 * (u - jn s.f 0 0) % jn 1 0 0), fun w => BigN w0.heap.size w (E4 3) (s.b * 100000000000), fun w => BigN w0.heap.size w (E4 4) (u + s.b * 100000000000), fun w => BigN w0.heap.size w (E4 6) (u + s.b * 100000000000 + s.r * 100000000000 * (u - jn s.f 0 0) / jn 1 0 0)]) (M' := fun E4 => [((pb E1 0), 25, [vI (s.d), vI (s.b), vI (s.f), vI (s.r)]), ((pb E1 1), 46, [.bool (p), rS u A0 c0]), ((pb E1 2), 46, [.bool (decide (u + s.b * 100000000000 + s.r * 100000000000 * (u - jn s.f 0 0) / jn 1 0 0 < 0)), rS (u + s.b * 100000000000 + s.r * 100000000000 * (u - jn s.f 0 0) / jn 1 0 0) ((bA (E4 6))) ((bC (E4 6)))]), ((pb E2 2), 46, [.bool (decide (jn 1 0 0 < 0)), rS (jn 1 0 0) ((bA (E2 1))) ((bC (E2 1)))]), ((pb E3 15), 46, [.bool (decide (s.r * 100000000000 * (u - jn s.f 0 0) / jn 1 0 0 < 0)), rS (s.r * 100000000000 * (u - jn s.f 0 0) / jn 1 0 0) ((bA (tp (E3 11) 0))) ((bC (tp (E3 11) 0)))]), ((pb E3 16), 46, [.bool (decide (s.r * 100000000000 * (u - jn s.f 0 0) % jn 1 0 0 < 0)), rS (s.r * 100000000000 * (u - jn s.f 0 0) % jn 1 0 0) ((bA (tp (E3 11) 1))) ((bC (tp (E3 11) 1)))])]) (hs := c_ (ld_ 1 (hrd := by exact rd46 rfl rfl)) <| c_ (fa0 (vP (pb E1 0) 0)) <| c_ (ld_ 0 (hrd := by exact rd3 rfl)) <| c_ (cb_ Try.func50 (s.b * 100000000000) (h := fun _ env _ wd hA => ⟨_, runit_any wd s.b (by omega) (by omega), rfl⟩)) <| c_ (cb_ Try.func22 (u + s.b * 100000000000) (h := fun _ env _ wd hA => ⟨_, Add_any wd p A0 c0 u hp (hr.grown hA.j.st.gr) hsu (decide (s.b * 100000000000 < 0)) (bA (env 3)) (bC (env 3)) (s.b * 100000000000) rfl (At.bigN hA 3 rfl rfl rfl) (by unfold Sm; omega), rfl⟩)) <| c_ (ld_ 4 (hrd := by exact rd46 rfl rfl)) <| c_ (cb_ Try.func22 (u + s.b * 100000000000 + s.r * 100000000000 * (u - jn s.f 0 0) / jn 1 0 0) (h := fun _ env _ wd hA => ⟨_, Add_any wd (decide (u + s.b * 100000000000 < 0)) (bA (env 4)) (bC (env 4)) (u + s.b * 100000000000) rfl (At.bigN hA 4 rfl rfl rfl) (by unfold Sm; omega) (decide (s.r * 100000000000 * (u - jn s.f 0 0) / jn 1 0 0 < 0)) (bA (tp (E3 11) 0)) (bC (tp (E3 11) 0)) (s.r * 100000000000 * (u - jn s.f 0 0) / jn 1 0 0) rfl (Facts.div1 (hA.j.st.now).1 5 rfl) hsg, rfl⟩)) <| c_ (se_ 2 (hst := by exact fun _ _ _ hc => st46 rfl rfl rfl hc)) <| e_) (k := fun E4 ac wd h_4 => ?_)
  clear h_3
  refine then_n (wp_ret ?_)
  refine lvC (v := bigF (u + s.b * 100000000000 + s.r * 100000000000 * (u - jn s.f 0 0) / jn 1 0 0) (E4 6)) Try.results29 h_4 2 (rd46 rfl rfl) ?_
  exact ⟨_, rfl, h_4.st.below, BigN.eq (BigN.mk rfl rfl (Facts.bN h_4.st.now 8 rfl)) (by unfold fS fA; rw [dayA_eq, Int.mul_comm (s.r * 100000000000) (u - jn s.f 0 0)])⟩
set_option maxRecDepth 100000 in
set_option maxHeartbeats 8000000 in
theorem rin_any (n lo_ up_ : Int) : Ret 25 #[vI n, vI lo_, vI up_] (.bool (wthn n lo_ up_)) := by
  intro w0
  have hst := St.start w0 (Θ := fun _ => True) (fun _ _ => trivial)
  refine en_ Try.func25 hst 15 [(0, vI n), (1, vI lo_), (2, vI up_)] (fun ac h => ?_)
  refine wp_seq ?_
  refine rg_ h [[0]] [K_ bF] (fun E1 => [(0, vI n), (1, vI lo_), (2, vI up_), (6, bF)]) (hs := c_ mv_ <| e_) (k := fun E1 ac wd h_1 => ?_)
  clear h
  refine then_n (wp_seq ?_)
  by_cases h : lo_ ≤ n
  refine rg_ h_1 [[0],[1],[0,1,2],r_ 4,r_ 5,[0,1,2,3,5],r_ 7,r_ 8,r_ 9] [K_ (vI lo_), K_ (vI n), K_ bT, K_ bT, K_ (vI n), K_ (vI up_), K_ (.bool (decide (n ≤ up_))), K_ (.bool (decide (n ≤ up_))), K_ (.bool (decide (n ≤ up_)))] (fun E2 => [(6, .bool (decide (n ≤ up_)))]) (hs := c_ mv_ <| c_ mv_ <| c_ (bi0 (vI lo_) (vI n) (h := by intro env w; simp [go_sem, h])) <| c_ mv_ <| c_ (gm0 (vI n)) <| c_ (gm0 (vI up_)) <| c_ (bi0 (vI n) (vI up_)) <| c_ (pk0 bT (.bool (decide (n ≤ up_))) bF) <| c_ mv_ <| e_) (k := fun E2 ac wd h_2 => ?_)
  clear h_1
  refine then_n (wp_ret ?_)
  refine lvT Try.results25 h_2 ?_
  exact ⟨by simp [wthn, h], h_2.st.below⟩
  refine rg_ h_1 [[0],[1],[0,1,2],r_ 4,r_ 5,[0,1,2,3,5],r_ 7,r_ 8,r_ 9] [K_ (vI lo_), K_ (vI n), K_ bF, K_ bF, K_ undef, K_ undef, K_ undef, K_ bF, K_ bF] (fun E2 => [(6, bF)]) (hs := c_ mv_ <| c_ mv_ <| c_ (bi0 (vI lo_) (vI n) (h := by intro env w; simp [go_sem, h])) <| c_ mv_ <| c_ off_ <| c_ off_ <| c_ off_ <| c_ (pk0 bF undef bF) <| c_ mv_ <| e_) (k := fun E2 ac wd h_2 => ?_)
  clear h_1
  refine then_n (wp_ret ?_)
  refine lvT Try.results25 h_2 ?_
  exact ⟨by simp [wthn, h], h_2.st.below⟩
set_option maxRecDepth 100000 in
set_option maxHeartbeats 8000000 in
theorem Until_any (w0 : World) (A0 : Option Addr) (c0 : Nat) (l : List Sg) (hl : SegU w0 (.slice A0 l.length c0) l) (day : Int) (i : Nat) (hi : i < 1000) : Calls Try.prog 26 #[.slice A0 l.length c0, vI day, vI (((i : Nat) : Int))] w0 fun e w' => e = .returned (vI (untS l day i)) ∧ Below w0.heap.size w0 w' := by
  have hst := St.start w0 (Θ := fun _ => True) (fun _ _ => trivial)
  refine en_ Try.func26 hst 19 [(0, .slice A0 l.length c0), (1, vI day), (2, vI (((i : Nat) : Int)))] (fun ac h => ?_)
  replace h := h.facts
  refine wp_seq ?_
  refine rf_ h [[0]] [K_ (vI 0)] (fun E1 => [(0, .slice A0 l.length c0), (1, vI day), (2, vN i), (6, vI 0)]) (hs := c_ mv_ <| e_) (k := fun E1 ac wd h_1 => ?_)
  clear h
  refine then_n (wp_seq (wp_seq ?_))
  by_cases h : i + 1 < l.length
  refine rf_ h_1 [[0],[0,1],[2],[2,3],r_ 5] [K_ (vN i), K_ (vI (((i : Nat) : Int) + 1)), K_ (.slice A0 l.length c0), K_ (vN l.length), K_ bT] (fun E2 => [(0, .slice A0 l.length c0), (1, vI day), (2, vN i), (6, vI 0), (11, bT)]) (hs := c_ mv_ <| c_ (bi0 (vN i) (vI 1)) <| c_ mv_ <| c_ (ln_ Try.underlying22 fun _ env _ wd hA => (hl.grown hA.j.st.gr).els) <| c_ (bi0 (vI (((i : Nat) : Int) + 1)) (vN l.length)) <| e_) (k := fun E2 ac wd h_2 => ?_)
  clear h_1
  refine then_n ?_
  refine cT_ h_2 ?_
  refine wp_seq ?_
  refine rf_ h_2 [[0],[1],[1,2],r_ 4,r_ 5,r_ 6,r_ 7] [K_ (.slice A0 l.length c0), K_ (vN i), K_ (vI (((i : Nat) : Int) + 1)), K_ (elt (.slice A0 l.length c0) ((i + 1) * 4)), K_ (elt (.slice A0 l.length c0) ((i + 1) * 4)), K_ (vI ((sgi l (i + 1)).d)), K_ (vI ((sgi l (i + 1)).d))] (fun E3 => [(1, vI day), (6, vI ((sgi l (i + 1)).d))]) (hs := c_ mv_ <| c_ mv_ <| c_ (bi0 (vN i) (vI 1)) <| c_ (ia_ Try.underlying22 sz25 (i + 1) ((i + 1) * 4) (((i : Nat) : Int) + 1) (fun _ env _ wd hA => (hl.grown hA.j.st.gr).els) (by omega) (by omega) rfl) <| c_ (s_fa rfl rfl rfl (fun _ => wanted_none rfl _) ((i + 1) * 4) 0 ((i + 1) * 4) rfl (s := fun _ => .slice A0 l.length c0) rfl (fun _ => rfl) (fun {D env ac wd} hA => (hl.grown hA.j.st.gr).els) (by omega) (fun b q w => by simp [go_sem, Try.underlying25])) <| c_ (le_ ((i + 1) * 4) (fun _ env _ wd hA => (hl.grown hA.j.st.gr).els) (by omega) (le3 (by exact sgC_0 l (i + 1)))) <| c_ mv_ <| e_) (k := fun E3 ac wd h_3 => ?_)
  clear h_2
  refine then_n (wp_ret (then_ret ?_))
  refine lvT Try.results26 h_3 ?_
  exact ⟨by unfold untS; rw [if_pos h], h_3.st.below⟩
  refine rf_ h_1 [[0],[0,1],[2],[2,3],r_ 5] [K_ (vN i), K_ (vI (((i : Nat) : Int) + 1)), K_ (.slice A0 l.length c0), K_ (vN l.length), K_ bF] (fun E2 => [(0, .slice A0 l.length c0), (1, vI day), (2, vN i), (6, vI 0), (11, bF)]) (hs := c_ mv_ <| c_ (bi0 (vN i) (vI 1)) <| c_ mv_ <| c_ (ln_ Try.underlying22 fun _ env _ wd hA => (hl.grown hA.j.st.gr).els) <| c_ (bi0 (vI (((i : Nat) : Int) + 1)) (vN l.length)) <| e_) (k := fun E2 ac wd h_2 => ?_)
  clear h_1
  refine then_n ?_
  refine cF_ h_2 ?_
  refine wp_skip (then_n (wp_seq ?_))
  refine rf_ h_2 [[0],[0,1]] [K_ (vI day), K_ (vI day)] (fun E3 => [(6, vI day)]) (hs := c_ mv_ <| c_ mv_ <| e_) (k := fun E3 ac wd h_3 => ?_)
  clear h_2
  refine then_n (wp_ret ?_)
  refine lvT Try.results26 h_3 ?_
  exact ⟨by unfold untS; rw [if_neg h], h_3.st.below⟩
set_option maxRecDepth 100000 in
set_option maxHeartbeats 8000000 in
theorem End_any (w0 : World) (A0 : Option Addr) (c0 : Nat) (l : List Sg) (hl : SegU w0 (.slice A0 l.length c0) l) (day off : Int) (hL : LOk l day off) (i : Nat) (hi : i < 1000) : Calls Try.prog 27 #[.slice A0 l.length c0, vI day, vI off, vI (((i : Nat) : Int))] w0 fun e w' => ∃ v, e = .returned v ∧ Below w0.heap.size w0 w' ∧ BigN w0.heap.size w' v (endS l day off i) := by
  have y0 := hL.y0; have y1 := hL.y1; have o0 := hL.o0; have o1 := hL.o1
  have hst := St.start w0 (Θ := fun _ => True) (fun _ _ => trivial)
  refine en_ Try.func27 hst 32 [(0, .slice A0 l.length c0), (1, vI day), (2, vI off), (3, vI (((i : Nat) : Int)))] (fun ac h => ?_)
  replace h := h.facts
  refine wp_seq ?_
  refine rf_ h [[0]] [KE_ fun env => vP (pb env 0) 0] (fun E1 => [(0, .slice A0 l.length c0), (1, vI day), (2, vI off), (3, vN i), (8, vP (pb E1 0) 0)]) (W := [{ i := 0, T := 46, c0 := [bF, .slice none 0 0] }]) (M' := fun E1 => [((pb E1 0), 46, [bF, .slice none 0 0])]) (hs := c_ (al_ 0) <| e_) (k := fun E1 ac wd h_1 => ?_)
  clear h
  refine then_n (wp_seq (wp_seq ?_))
  by_cases h : i + 1 < l.length
  have hs := hL.seg (i + 1) h; have h1 := hs.d0; have h2 := hs.d1; have hc : Cn (jn (sgi l (i + 1)).d 0 0) := cn_jn (by omega) (by omega) (by omega) (by omega) (by omega) (by omega); unfold Cn at hc
  refine rf_ h_1 [[0],[0,1],[2],[2,3],r_ 5] [K_ (vN i), K_ (vI (((i : Nat) : Int) + 1)), K_ (.slice A0 l.length c0), K_ (vN l.length), K_ bT] (fun E2 => [(0, .slice A0 l.length c0), (1, vI day), (2, vI off), (3, vN i), (8, vP (pb E1 0) 0), (13, bT)]) (hs := c_ mv_ <| c_ (bi0 (vN i) (vI 1)) <| c_ mv_ <| c_ (ln_ Try.underlying22 fun _ env _ wd hA => (hl.grown hA.j.st.gr).els) <| c_ (bi0 (vI (((i : Nat) : Int) + 1)) (vN l.length)) <| e_) (k := fun E2 ac wd h_2 => ?_)
  clear h_1
  refine then_n ?_
  refine cT_ h_2 ?_
  refine wp_seq ?_
  refine rf_ h_2 [[0],[1],[1,2],r_ 4,r_ 5,[5],[6],[6,7],[5,6,7,8],[5,6,7,8,9],[5,6,7,8,9,10],[5,6,7,8,9,10,11],[5,6,7,8,9,10,11,12],r_ 14,r_ 15] [K_ (.slice A0 l.length c0), K_ (vN i), K_ (vI (((i : Nat) : Int) + 1)), K_ (elt (.slice A0 l.length c0) ((i + 1) * 4)), K_ (vSg (sgi l (i + 1))), K_ (.slice A0 l.length c0), K_ (vN i), K_ (vI (((i : Nat) : Int) + 1)), K_ (elt (.slice A0 l.length c0) ((i + 1) * 4)), K_ (elt (.slice A0 l.length c0) ((i + 1) * 4)), K_ (vI ((sgi l (i + 1)).d)), K_ (vL ((sgi l (i + 1)).d) 0 0), KE_ fun env => bigF (jn ((sgi l (i + 1)).d) 0 0) (env 12), KE_ fun env => bigF (fS (sgi l (i + 1)) (jn (sgi l (i + 1)).d 0 0)) (env 13), none] (fun E3 => [(1, vI day), (2, vI off), (8, vP (pb E1 0) 0)]) (S := [⟨0, 14, fun env => [.bool (decide (fS (sgi l (i + 1)) (jn (sgi l (i + 1)).d 0 0) < 0)), rS (fS (sgi l (i + 1)) (jn (sgi l (i + 1)).d 0 0)) ((bA (env 13))) ((bC (env 13)))]⟩]) (F := [(12, fun env w => BigN w0.heap.size w (env 12) (jn ((sgi l (i + 1)).d) 0 0)), (13, fun env w => BigN w0.heap.size w (env 13) (fS (sgi l (i + 1)) (jn (sgi l (i + 1)).d 0 0)))]) (L1 := fun E3 => [fun w => BigN w0.heap.size w (E3 12) (jn ((sgi l (i + 1)).d) 0 0), fun w => BigN w0.heap.size w (E3 13) (fS (sgi l (i + 1)) (jn (sgi l (i + 1)).d 0 0))]) (M' := fun E3 => [((pb E1 0), 46, [.bool (decide (fS (sgi l (i + 1)) (jn (sgi l (i + 1)).d 0 0) < 0)), rS (fS (sgi l (i + 1)) (jn (sgi l (i + 1)).d 0 0)) ((bA (E3 13))) ((bC (E3 13)))])]) (hs := c_ mv_ <| c_ mv_ <| c_ (bi0 (vN i) (vI 1)) <| c_ (ia_ Try.underlying22 sz25 (i + 1) ((i + 1) * 4) (((i : Nat) : Int) + 1) (fun _ env _ wd hA => (hl.grown hA.j.st.gr).els) (by omega) (by omega) rfl) <| c_ (le_ ((i + 1) * 4) (fun _ env _ wd hA => (hl.grown hA.j.st.gr).els) (by omega) (le25 (by exact sgC_0 l (i + 1)) (by exact sgC_1 l (i + 1)) (by exact sgC_2 l (i + 1)) (by exact sgC_3 l (i + 1)))) <| c_ mv_ <| c_ mv_ <| c_ (bi0 (vN i) (vI 1)) <| c_ (ia_ Try.underlying22 sz25 (i + 1) ((i + 1) * 4) (((i : Nat) : Int) + 1) (fun _ env _ wd hA => (hl.grown hA.j.st.gr).els) (by omega) (by omega) rfl) <| c_ (s_fa rfl rfl rfl (fun _ => wanted_none rfl _) ((i + 1) * 4) 0 ((i + 1) * 4) rfl (s := fun _ => .slice A0 l.length c0) rfl (fun _ => rfl) (fun {D env ac wd} hA => (hl.grown hA.j.st.gr).els) (by omega) (fun b q w => by simp [go_sem, Try.underlying25])) <| c_ (le_ ((i + 1) * 4) (fun _ env _ wd hA => (hl.grown hA.j.st.gr).els) (by omega) (le3 (by exact sgC_0 l (i + 1)))) <| c_ (bd0 ([vI ((sgi l (i + 1)).d)])) <| c_ (cb_ Try.func23 (jn ((sgi l (i + 1)).d) 0 0) (h := fun _ env _ wd hA => ⟨_, Join_any wd ((sgi l (i + 1)).d) 0 0 (by omega) (by omega) (by omega) (by omega) (by omega) (by omega), rfl⟩)) <| c_ (cb_ Try.func29 (fS (sgi l (i + 1)) (jn (sgi l (i + 1)).d 0 0)) (h := fun _ env _ wd hA => ⟨_, F_any wd (sgi l (i + 1)) hs _ (bA (env 12)) (bC (env 12)) (jn (sgi l (i + 1)).d 0 0) rfl (At.bigN hA 12 rfl rfl rfl) (by omega) (by omega), rfl⟩)) <| c_ (se_ 0 (hst := by exact fun _ _ _ hc => st46 rfl rfl rfl hc)) <| e_) (k := fun E3 ac wd h_3 => ?_)
  clear h_2
  refine then_n (wp_ret (then_ret ?_))
  refine lvC (v := bigF (fS (sgi l (i + 1)) (jn (sgi l (i + 1)).d 0 0)) (E3 13)) Try.results27 h_3 0 (rd46 rfl rfl) ?_
  exact ⟨_, rfl, h_3.st.below, BigN.eq (BigN.mk rfl rfl (Facts.bN h_3.st.now 1 rfl)) (by unfold endS; rw [if_pos h])⟩
  refine rf_ h_1 [[0],[0,1],[2],[2,3],r_ 5] [K_ (vN i), K_ (vI (((i : Nat) : Int) + 1)), K_ (.slice A0 l.length c0), K_ (vN l.length), K_ bF] (fun E2 => [(0, .slice A0 l.length c0), (1, vI day), (2, vI off), (3, vN i), (8, vP (pb E1 0) 0), (13, bF)]) (hs := c_ mv_ <| c_ (bi0 (vN i) (vI 1)) <| c_ mv_ <| c_ (ln_ Try.underlying22 fun _ env _ wd hA => (hl.grown hA.j.st.gr).els) <| c_ (bi0 (vI (((i : Nat) : Int) + 1)) (vN l.length)) <| e_) (k := fun E2 ac wd h_2 => ?_)
  clear h_1
  refine then_n ?_
  refine cF_ h_2 ?_
  refine wp_skip (then_n (wp_seq ?_))
  refine rf_ h_2 [[0],[1],[0,1,2],r_ 4,r_ 5] [K_ (vI day), K_ (vI off), K_ (vL day off 0), KE_ fun env => bigF (jn day off 0) (env 3), none] (fun E3 => [(8, vP (pb E1 0) 0)]) (S := [⟨0, 4, fun env => [.bool (decide (jn day off 0 < 0)), rS (jn day off 0) ((bA (env 3))) ((bC (env 3)))]⟩]) (F := [(3, fun env w => BigN w0.heap.size w (env 3) (jn day off 0))]) (L1 := fun E3 => [fun w => BigN w0.heap.size w (E3 3) (jn day off 0)]) (M' := fun E3 => [((pb E1 0), 46, [.bool (decide (jn day off 0 < 0)), rS (jn day off 0) ((bA (E3 3))) ((bC (E3 3)))])]) (hs := c_ mv_ <| c_ mv_ <| c_ (bd0 ([vI day, vI off])) <| c_ (cb_ Try.func23 (jn day off 0) (h := fun _ env _ wd hA => ⟨_, Join_any wd day off 0 (by omega) (by omega) (by omega) (by omega) (by omega) (by omega), rfl⟩)) <| c_ (se_ 0 (hst := by exact fun _ _ _ hc => st46 rfl rfl rfl hc)) <| e_) (k := fun E3 ac wd h_3 => ?_)
  clear h_2
  refine then_n (wp_ret ?_)
  refine lvC (v := bigF (jn day off 0) (E3 3)) Try.results27 h_3 0 (rd46 rfl rfl) ?_
  exact ⟨_, rfl, h_3.st.below, BigN.eq (BigN.mk rfl rfl (Facts.bN h_3.st.now 0 rfl)) (by unfold endS; rw [if_neg h])⟩
end Go.Proofs.Ytdfkghpgekmmlaa
/- epactref14: May, greatest (printed by my walk.py) -/
namespace Go.Proofs.Ytdfkghpgekmmlaa
open Go.RowKit
set_option linter.unusedVariables false
set_option linter.unusedSimpArgs false
attribute [local go_sem] vN bT bF rS vSg vW vM vL vT2 vT3 vP vI execOp Act.eval evC bigF vB hi_zero lo_zero Try.underlying25 Try.underlying36 Try.underlying46

theorem cmpZ_le {x y : Int} : cmpZ x y ≤ 0 ↔ x ≤ y := by unfold cmpZ; split <;> (try split) <;> omega
theorem cmpZ_lt {x y : Int} : cmpZ x y < 0 ↔ x < y := by unfold cmpZ; split <;> (try split) <;> omega
theorem cmpZ_ge {x y : Int} : 0 ≤ cmpZ x y ↔ y ≤ x := by unfold cmpZ; split <;> (try split) <;> omega
theorem cmpZ_gt {x y : Int} : 0 < cmpZ x y ↔ y < x := by unfold cmpZ; split <;> (try split) <;> omega

set_option maxRecDepth 100000 in
set_option maxHeartbeats 8000000 in
theorem May_any (w0 : World) (A0 : Option Addr) (c0 : Nat) (l : List Sg) (hl : SegU w0 (.slice A0 l.length c0) l) (day off : Int) : Calls Try.prog 9 #[.slice A0 l.length c0, vI day, vI off] w0 fun e w' => e = .returned (.bool (mayS l day off)) ∧ Below w0.heap.size w0 w' := by
  have hst := St.start w0 (Θ := fun _ => True) (fun _ _ => trivial)
  refine en_ Try.func9 hst 107 [(0, .slice A0 l.length c0), (1, vI day), (2, vI off)] (fun ac h => ?_)
  replace h := h.facts
  refine wp_seq ?_
  refine rf_ h [[0]] [K_ bF] (fun E1 => [(0, .slice A0 l.length c0), (1, vI day), (2, vI off), (6, bF)]) (hs := c_ mv_ <| e_) (k := fun E1 ac wd h_1 => ?_)
  clear h
  refine then_n (wp_seq (wp_seq ?_))
  cases hA : wthn (l.length : Int) 1 32
  refine rf_ h_1 (tri 14) [K_ (.slice A0 l.length c0), K_ (vN l.length), K_ bF, K_ bT, K_ bT, K_ undef, K_ undef, K_ undef, K_ bT, K_ bT, K_ undef, K_ undef, K_ undef, K_ bT] (fun E2 => [(0, .slice A0 l.length c0), (1, vI day), (2, vI off), (6, bF), (25, bT)]) (hs := c_ mv_ <| c_ (ln_ Try.underlying22 fun _ env _ wd hA => (hl.grown hA.j.st.gr).els) <| c_ (cl_ Try.func25 (h := fun env => ⟨_, ((rin_any (l.length : Int) 1 32).eq (congrArg Value.bool hA)), rfl⟩)) <| c_ (un0 bF) <| c_ mv_ <| c_ off_ <| c_ off_ <| c_ off_ <| c_ (pk0 bT bT undef) <| c_ mv_ <| c_ off_ <| c_ off_ <| c_ off_ <| c_ (pk0 bT bT undef) <| e_) (k := fun E2 ac wd h_2 => ?_)
  clear h_1
  refine then_n ?_
  refine cT_ h_2 ?_
  refine wp_seq ?_
  refine rf_ h_2 [[0]] [K_ bF] (fun E3 => [(0, .slice A0 l.length c0), (1, vI day), (2, vI off), (6, bF)]) (hs := c_ mv_ <| e_) (k := fun E3 ac wd h_3 => ?_)
  clear h_2
  refine then_n (wp_ret (then_ret ?_))
  refine lvT Try.results9 h_3 ?_
  have hres : mayS l day off = false := by simp [mayS, szL, szH, hA]
  exact ⟨by rw [hres], h_3.st.below⟩
  cases hB : wthn day (-1048576) 1048576
  refine rf_ h_1 (tri 14) [K_ (.slice A0 l.length c0), K_ (vN l.length), K_ bT, K_ bF, K_ bF, K_ (vI day), K_ bF, K_ bT, K_ bT, K_ bT, K_ undef, K_ undef, K_ undef, K_ bT] (fun E2 => [(0, .slice A0 l.length c0), (1, vI day), (2, vI off), (6, bF), (25, bT)]) (hs := c_ mv_ <| c_ (ln_ Try.underlying22 fun _ env _ wd hA => (hl.grown hA.j.st.gr).els) <| c_ (cl_ Try.func25 (h := fun env => ⟨_, ((rin_any (l.length : Int) 1 32).eq (congrArg Value.bool hA)), rfl⟩)) <| c_ (un0 bT) <| c_ mv_ <| c_ (gm0 (vI day)) <| c_ (cl_ Try.func25 (h := fun env => ⟨_, ((rin_any day (-1048576) 1048576).eq (congrArg Value.bool hB)), rfl⟩)) <| c_ (un0 bF) <| c_ (pk0 bF bT bT) <| c_ mv_ <| c_ off_ <| c_ off_ <| c_ off_ <| c_ (pk0 bT bT undef) <| e_) (k := fun E2 ac wd h_2 => ?_)
  clear h_1
  refine then_n ?_
  refine cT_ h_2 ?_
  refine wp_seq ?_
  refine rf_ h_2 [[0]] [K_ bF] (fun E3 => [(0, .slice A0 l.length c0), (1, vI day), (2, vI off), (6, bF)]) (hs := c_ mv_ <| e_) (k := fun E3 ac wd h_3 => ?_)
  clear h_2
  refine then_n (wp_ret (then_ret ?_))
  refine lvT Try.results9 h_3 ?_
  have hres : mayS l day off = false := by simp [mayS, szL, szH, hA, hB]
  exact ⟨by rw [hres], h_3.st.below⟩
  cases hC : wthn off 0 1000
  refine rf_ h_1 (tri 14) [K_ (.slice A0 l.length c0), K_ (vN l.length), K_ bT, K_ bF, K_ bF, K_ (vI day), K_ bT, K_ bF, K_ bF, K_ bF, K_ (vI off), K_ bF, K_ bT, K_ bT] (fun E2 => [(0, .slice A0 l.length c0), (1, vI day), (2, vI off), (6, bF), (25, bT)]) (hs := c_ mv_ <| c_ (ln_ Try.underlying22 fun _ env _ wd hA => (hl.grown hA.j.st.gr).els) <| c_ (cl_ Try.func25 (h := fun env => ⟨_, ((rin_any (l.length : Int) 1 32).eq (congrArg Value.bool hA)), rfl⟩)) <| c_ (un0 bT) <| c_ mv_ <| c_ (gm0 (vI day)) <| c_ (cl_ Try.func25 (h := fun env => ⟨_, ((rin_any day (-1048576) 1048576).eq (congrArg Value.bool hB)), rfl⟩)) <| c_ (un0 bT) <| c_ (pk0 bF bT bF) <| c_ mv_ <| c_ (gm0 (vI off)) <| c_ (cl_ Try.func25 (h := fun env => ⟨_, ((rin_any off 0 1000).eq (congrArg Value.bool hC)), rfl⟩)) <| c_ (un0 bF) <| c_ (pk0 bF bT bT) <| e_) (k := fun E2 ac wd h_2 => ?_)
  clear h_1
  refine then_n ?_
  refine cT_ h_2 ?_
  refine wp_seq ?_
  refine rf_ h_2 [[0]] [K_ bF] (fun E3 => [(0, .slice A0 l.length c0), (1, vI day), (2, vI off), (6, bF)]) (hs := c_ mv_ <| e_) (k := fun E3 ac wd h_3 => ?_)
  clear h_2
  refine then_n (wp_ret (then_ret ?_))
  refine lvT Try.results9 h_3 ?_
  have hres : mayS l day off = false := by simp [mayS, szL, szH, hA, hB, hC]
  exact ⟨by rw [hres], h_3.st.below⟩
  refine rf_ h_1 (tri 14) [K_ (.slice A0 l.length c0), K_ (vN l.length), K_ bT, K_ bF, K_ bF, K_ (vI day), K_ bT, K_ bF, K_ bF, K_ bF, K_ (vI off), K_ bT, K_ bF, K_ bF] (fun E2 => [(0, .slice A0 l.length c0), (1, vI day), (2, vI off), (6, bF), (25, bF)]) (hs := c_ mv_ <| c_ (ln_ Try.underlying22 fun _ env _ wd hA => (hl.grown hA.j.st.gr).els) <| c_ (cl_ Try.func25 (h := fun env => ⟨_, ((rin_any (l.length : Int) 1 32).eq (congrArg Value.bool hA)), rfl⟩)) <| c_ (un0 bT) <| c_ mv_ <| c_ (gm0 (vI day)) <| c_ (cl_ Try.func25 (h := fun env => ⟨_, ((rin_any day (-1048576) 1048576).eq (congrArg Value.bool hB)), rfl⟩)) <| c_ (un0 bT) <| c_ (pk0 bF bT bF) <| c_ mv_ <| c_ (gm0 (vI off)) <| c_ (cl_ Try.func25 (h := fun env => ⟨_, ((rin_any off 0 1000).eq (congrArg Value.bool hC)), rfl⟩)) <| c_ (un0 bT) <| c_ (pk0 bF bT bF) <| e_) (k := fun E2 ac wd h_2 => ?_)
  clear h_1
  refine then_n ?_
  refine cF_ h_2 ?_
  refine wp_skip (then_n (wp_seq (wp_seq ?_)))
  refine rf_ h_2 [[0]] [K_ (vI 0)] (fun E3 => [(0, .slice A0 l.length c0), (1, vI day), (2, vI off), (6, bF), (7, vI 0)]) (hs := c_ mv_ <| e_) (k := fun E3 ac wd h_3 => ?_)
  clear h_2
  refine then_n (wp_block ?_)
  refine wp_loop (fun ac wd => ∃ i : Nat, (i ≤ l.length ∧ ∀ j, j < i → szA l day j = true) ∧ Cur 107 w0 none none (Facts []) (fun _ => True) [(0, .slice A0 l.length c0), (1, vI day), (2, vI off), (7, vN i)] [] ac wd) (fun ac _ => ((l.length : Int) - sI ac 7).toNat) ⟨0, ⟨by omega, fun j hj => by omega⟩, (h_3.re rfl).th (fun _ h => h)⟩ ?_
  rintro ac wd ⟨i, ⟨hi1, hi2⟩, h_4⟩
  clear h_3
  have hmu : sI ac 7 = ((i : Nat) : Int) := sI_eq (h_4.g (t := 7) rfl)
  have hn32 := (wthn_iff.1 hA)
  refine wp_seq (wp_seq ?_)
  by_cases h1 : i < l.length
  refine rf_ h_4 [[0],[1],[1,2],r_ 4] [K_ (vN i), K_ (.slice A0 l.length c0), K_ (vN l.length), K_ bT] (fun E5 => [(0, .slice A0 l.length c0), (1, vI day), (2, vI off), (7, vN i), (26, vN i), (27, .slice A0 l.length c0), (28, vN l.length), (29, bT)]) (hs := c_ mv_ <| c_ mv_ <| c_ (ln_ Try.underlying22 fun _ env _ wd hA => (hl.grown hA.j.st.gr).els) <| c_ (bi0 (vN i) (vN l.length)) <| e_) (k := fun E5 ac wd h_5 => ?_)
  clear h_4
  refine then_n ?_
  refine cT_ h_5 ?_
  refine wp_skip (then_n (wp_seq (wp_block (wp_seq ?_))))
  refine rf_ h_5 [[0],[1],[0,1,2],r_ 4,[4],r_ 6] [K_ (.slice A0 l.length c0), K_ (vN i), K_ (elt (.slice A0 l.length c0) (i * 4)), K_ (vSg (sgi l i)), KE_ fun env => vP (pb env 4) 0, none] (fun E6 => [(0, .slice A0 l.length c0), (1, vI day), (2, vI off), (7, vN i), (8, vP (pb E6 4) 0), (26, vN i), (27, .slice A0 l.length c0), (28, vN l.length), (29, bT), (32, .slice A0 l.length c0), (33, vN i), (34, elt (.slice A0 l.length c0) (i * 4)), (35, vSg (sgi l i))]) (W := [{ i := 4, T := 25, c0 := [vI 0, vI 0, vI 0, vI 0], s := some 5, c1 := fun _ => [vI ((sgi l i).d), vI ((sgi l i).b), vI ((sgi l i).f), vI ((sgi l i).r)] }]) (M' := fun E6 => [((pb E6 4), 25, [vI ((sgi l i).d), vI ((sgi l i).b), vI ((sgi l i).f), vI ((sgi l i).r)])]) (hs := c_ mv_ <| c_ mv_ <| c_ (ia_ Try.underlying22 sz25 i (i * 4) ((i : Nat) : Int) (fun _ env _ wd hA => (hl.grown hA.j.st.gr).els) (rfl) (by omega) rfl) <| c_ (le_ (i * 4) (fun _ env _ wd hA => (hl.grown hA.j.st.gr).els) (by omega) (le25 (by exact sgC_0 l i) (by exact sgC_1 l i) (by exact sgC_2 l i) (by exact sgC_3 l i))) <| c_ (al_ 0) <| c_ (sw_ 0 4 (hst := by exact fun _ _ _ hc => st25 rfl rfl rfl rfl rfl hc)) <| e_) (k := fun E6 ac wd h_6 => ?_)
  clear h_5
  refine then_n (wp_seq ?_)
  cases gD : wthn (sgi l i).d (-1048576) 1048576
  refine rf_ h_6 [[0],[0,1],[0,1,2],r_ 4,r_ 5,r_ 6,r_ 7,r_ 8,r_ 9,r_ 10,r_ 11,r_ 12,r_ 13,r_ 14,r_ 15,r_ 16,r_ 17,r_ 18,r_ 19,r_ 20,r_ 21,r_ 22,r_ 23,r_ 24,[0,1,2,3,4,5,6,7,8,9,10,11,12,13,14,15,16,17,18,19,20,21,22,24],[0,1,2,3,4,5,6,7,8,9,10,11,12,13,14,15,16,17,18,19,20,21,22,25],r_ 27,[0,1,2,3,4,5,6,7,8,9,10,11,12,13,14,15,16,17,18,19,20,21,22,27],[0,1,2,3,4,5,6,7,8,9,10,11,12,13,14,15,16,17,18,19,20,21,22,27,28],r_ 30,r_ 31] [K_ (vP (pb E6 4) 0), K_ (vI ((sgi l i).d)), K_ bF, K_ bT, K_ bT, K_ undef, K_ undef, K_ undef, K_ undef, K_ bT, K_ bT, K_ undef, K_ undef, K_ undef, K_ undef, K_ bT, K_ bT, K_ undef, K_ undef, K_ undef, K_ undef, K_ bT, K_ bT, K_ undef, K_ undef, K_ undef, K_ undef, K_ undef, K_ undef, K_ undef, K_ bT] (fun E7 => [(0, .slice A0 l.length c0), (1, vI day), (2, vI off), (7, vN i), (8, vP (pb E6 4) 0), (26, vN i), (27, .slice A0 l.length c0), (28, vN l.length), (29, bT), (32, .slice A0 l.length c0), (33, vN i), (34, elt (.slice A0 l.length c0) (i * 4)), (35, vSg (sgi l i)), (36, vP (pb E6 4) 0), (37, vI ((sgi l i).d)), (38, bF), (39, bT), (40, bT), (41, undef), (42, undef), (43, undef), (44, undef), (45, bT), (46, bT), (47, undef), (48, undef), (49, undef), (50, undef), (51, bT), (52, bT), (53, undef), (54, undef), (55, undef), (56, undef), (57, bT), (58, bT), (59, undef), (60, undef), (61, undef), (62, undef), (63, undef), (64, undef), (65, undef), (66, bT)]) (hs := c_ (fa0 (vP (pb E6 4) 0)) <| c_ (ld_ 0 (hrd := by exact rd3 rfl)) <| c_ (cl_ Try.func25 (h := fun env => ⟨_, ((rin_any (sgi l i).d (-1048576) 1048576).eq (congrArg Value.bool gD)), rfl⟩)) <| c_ (un0 bF) <| c_ mv_ <| c_ off_ <| c_ off_ <| c_ off_ <| c_ off_ <| c_ (pk0 bT bT undef) <| c_ mv_ <| c_ off_ <| c_ off_ <| c_ off_ <| c_ off_ <| c_ (pk0 bT bT undef) <| c_ mv_ <| c_ off_ <| c_ off_ <| c_ off_ <| c_ off_ <| c_ (pk0 bT bT undef) <| c_ mv_ <| c_ off_ <| c_ off_ <| c_ off_ <| c_ off_ <| c_ off_ <| c_ off_ <| c_ off_ <| c_ (pk0 bT bT undef) <| e_) (k := fun E7 ac wd h_7 => ?_)
  clear h_6
  refine then_n ?_
  refine cT_ h_7 ?_
  refine wp_seq ?_
  refine rf_ h_7 [[0]] [K_ bF] (fun E8 => [(0, .slice A0 l.length c0), (1, vI day), (2, vI off), (6, bF), (7, vN i), (8, vP (pb E6 4) 0), (26, vN i), (27, .slice A0 l.length c0), (28, vN l.length), (29, bT), (32, .slice A0 l.length c0), (33, vN i), (34, elt (.slice A0 l.length c0) (i * 4)), (35, vSg (sgi l i)), (36, vP (pb E6 4) 0), (37, vI ((sgi l i).d)), (38, bF), (39, bT), (40, bT), (41, undef), (42, undef), (43, undef), (44, undef), (45, bT), (46, bT), (47, undef), (48, undef), (49, undef), (50, undef), (51, bT), (52, bT), (53, undef), (54, undef), (55, undef), (56, undef), (57, bT), (58, bT), (59, undef), (60, undef), (61, undef), (62, undef), (63, undef), (64, undef), (65, undef), (66, bT)]) (hs := c_ mv_ <| e_) (k := fun E8 ac wd h_8 => ?_)
  clear h_7
  refine then_n (wp_ret (blk_ret (then_ret (then_ret (blk_ret (then_ret ?_))))))
  refine lvT Try.results9 h_8 ?_
  have hres : mayS l day off = false := by (have hq : szA l day i = false := (by simp [szA, szS, gD] <;> omega)); simp [mayS, szL, all_no h1 hq]
  exact ⟨by rw [hres], h_8.st.below⟩
  cases gF : wthn (sgi l i).f (-1048576) 1048576
  refine rf_ h_6 [[0],[0,1],[0,1,2],r_ 4,r_ 5,r_ 6,r_ 7,r_ 8,r_ 9,r_ 10,r_ 11,r_ 12,r_ 13,r_ 14,r_ 15,r_ 16,r_ 17,r_ 18,r_ 19,r_ 20,r_ 21,r_ 22,r_ 23,r_ 24,[0,1,2,3,4,5,6,7,8,9,10,11,12,13,14,15,16,17,18,19,20,21,22,24],[0,1,2,3,4,5,6,7,8,9,10,11,12,13,14,15,16,17,18,19,20,21,22,25],r_ 27,[0,1,2,3,4,5,6,7,8,9,10,11,12,13,14,15,16,17,18,19,20,21,22,27],[0,1,2,3,4,5,6,7,8,9,10,11,12,13,14,15,16,17,18,19,20,21,22,27,28],r_ 30,r_ 31] [K_ (vP (pb E6 4) 0), K_ (vI ((sgi l i).d)), K_ bT, K_ bF, K_ bF, K_ (vP (pb E6 4) 2), K_ (vI ((sgi l i).f)), K_ bF, K_ bT, K_ bT, K_ bT, K_ undef, K_ undef, K_ undef, K_ undef, K_ bT, K_ bT, K_ undef, K_ undef, K_ undef, K_ undef, K_ bT, K_ bT, K_ undef, K_ undef, K_ undef, K_ undef, K_ undef, K_ undef, K_ undef, K_ bT] (fun E7 => [(0, .slice A0 l.length c0), (1, vI day), (2, vI off), (7, vN i), (8, vP (pb E6 4) 0), (26, vN i), (27, .slice A0 l.length c0), (28, vN l.length), (29, bT), (32, .slice A0 l.length c0), (33, vN i), (34, elt (.slice A0 l.length c0) (i * 4)), (35, vSg (sgi l i)), (36, vP (pb E6 4) 0), (37, vI ((sgi l i).d)), (38, bT), (39, bF), (40, bF), (41, vP (pb E6 4) 2), (42, vI ((sgi l i).f)), (43, bF), (44, bT), (45, bT), (46, bT), (47, undef), (48, undef), (49, undef), (50, undef), (51, bT), (52, bT), (53, undef), (54, undef), (55, undef), (56, undef), (57, bT), (58, bT), (59, undef), (60, undef), (61, undef), (62, undef), (63, undef), (64, undef), (65, undef), (66, bT)]) (hs := c_ (fa0 (vP (pb E6 4) 0)) <| c_ (ld_ 0 (hrd := by exact rd3 rfl)) <| c_ (cl_ Try.func25 (h := fun env => ⟨_, ((rin_any (sgi l i).d (-1048576) 1048576).eq (congrArg Value.bool gD)), rfl⟩)) <| c_ (un0 bT) <| c_ mv_ <| c_ (fa0 (vP (pb E6 4) 0)) <| c_ (ld_ 0 (hrd := by exact rd3 rfl)) <| c_ (cl_ Try.func25 (h := fun env => ⟨_, ((rin_any (sgi l i).f (-1048576) 1048576).eq (congrArg Value.bool gF)), rfl⟩)) <| c_ (un0 bF) <| c_ (pk0 bF bT bT) <| c_ mv_ <| c_ off_ <| c_ off_ <| c_ off_ <| c_ off_ <| c_ (pk0 bT bT undef) <| c_ mv_ <| c_ off_ <| c_ off_ <| c_ off_ <| c_ off_ <| c_ (pk0 bT bT undef) <| c_ mv_ <| c_ off_ <| c_ off_ <| c_ off_ <| c_ off_ <| c_ off_ <| c_ off_ <| c_ off_ <| c_ (pk0 bT bT undef) <| e_) (k := fun E7 ac wd h_7 => ?_)
  clear h_6
  refine then_n ?_
  refine cT_ h_7 ?_
  refine wp_seq ?_
  refine rf_ h_7 [[0]] [K_ bF] (fun E8 => [(0, .slice A0 l.length c0), (1, vI day), (2, vI off), (6, bF), (7, vN i), (8, vP (pb E6 4) 0), (26, vN i), (27, .slice A0 l.length c0), (28, vN l.length), (29, bT), (32, .slice A0 l.length c0), (33, vN i), (34, elt (.slice A0 l.length c0) (i * 4)), (35, vSg (sgi l i)), (36, vP (pb E6 4) 0), (37, vI ((sgi l i).d)), (38, bT), (39, bF), (40, bF), (41, vP (pb E6 4) 2), (42, vI ((sgi l i).f)), (43, bF), (44, bT), (45, bT), (46, bT), (47, undef), (48, undef), (49, undef), (50, undef), (51, bT), (52, bT), (53, undef), (54, undef), (55, undef), (56, undef), (57, bT), (58, bT), (59, undef), (60, undef), (61, undef), (62, undef), (63, undef), (64, undef), (65, undef), (66, bT)]) (hs := c_ mv_ <| e_) (k := fun E8 ac wd h_8 => ?_)
  clear h_7
  refine then_n (wp_ret (blk_ret (then_ret (then_ret (blk_ret (then_ret ?_))))))
  refine lvT Try.results9 h_8 ?_
  have hres : mayS l day off = false := by (have hq : szA l day i = false := (by simp [szA, szS, gD, gF] <;> omega)); simp [mayS, szL, all_no h1 hq]
  exact ⟨by rw [hres], h_8.st.below⟩
  cases gB : wthn (sgi l i).b (-1000000000) 1000000000
  refine rf_ h_6 [[0],[0,1],[0,1,2],r_ 4,r_ 5,r_ 6,r_ 7,r_ 8,r_ 9,r_ 10,r_ 11,r_ 12,r_ 13,r_ 14,r_ 15,r_ 16,r_ 17,r_ 18,r_ 19,r_ 20,r_ 21,r_ 22,r_ 23,r_ 24,[0,1,2,3,4,5,6,7,8,9,10,11,12,13,14,15,16,17,18,19,20,21,22,24],[0,1,2,3,4,5,6,7,8,9,10,11,12,13,14,15,16,17,18,19,20,21,22,25],r_ 27,[0,1,2,3,4,5,6,7,8,9,10,11,12,13,14,15,16,17,18,19,20,21,22,27],[0,1,2,3,4,5,6,7,8,9,10,11,12,13,14,15,16,17,18,19,20,21,22,27,28],r_ 30,r_ 31] [K_ (vP (pb E6 4) 0), K_ (vI ((sgi l i).d)), K_ bT, K_ bF, K_ bF, K_ (vP (pb E6 4) 2), K_ (vI ((sgi l i).f)), K_ bT, K_ bF, K_ bF, K_ bF, K_ (vP (pb E6 4) 1), K_ (vI ((sgi l i).b)), K_ bF, K_ bT, K_ bT, K_ bT, K_ undef, K_ undef, K_ undef, K_ undef, K_ bT, K_ bT, K_ undef, K_ undef, K_ undef, K_ undef, K_ undef, K_ undef, K_ undef, K_ bT] (fun E7 => [(0, .slice A0 l.length c0), (1, vI day), (2, vI off), (7, vN i), (8, vP (pb E6 4) 0), (26, vN i), (27, .slice A0 l.length c0), (28, vN l.length), (29, bT), (32, .slice A0 l.length c0), (33, vN i), (34, elt (.slice A0 l.length c0) (i * 4)), (35, vSg (sgi l i)), (36, vP (pb E6 4) 0), (37, vI ((sgi l i).d)), (38, bT), (39, bF), (40, bF), (41, vP (pb E6 4) 2), (42, vI ((sgi l i).f)), (43, bT), (44, bF), (45, bF), (46, bF), (47, vP (pb E6 4) 1), (48, vI ((sgi l i).b)), (49, bF), (50, bT), (51, bT), (52, bT), (53, undef), (54, undef), (55, undef), (56, undef), (57, bT), (58, bT), (59, undef), (60, undef), (61, undef), (62, undef), (63, undef), (64, undef), (65, undef), (66, bT)]) (hs := c_ (fa0 (vP (pb E6 4) 0)) <| c_ (ld_ 0 (hrd := by exact rd3 rfl)) <| c_ (cl_ Try.func25 (h := fun env => ⟨_, ((rin_any (sgi l i).d (-1048576) 1048576).eq (congrArg Value.bool gD)), rfl⟩)) <| c_ (un0 bT) <| c_ mv_ <| c_ (fa0 (vP (pb E6 4) 0)) <| c_ (ld_ 0 (hrd := by exact rd3 rfl)) <| c_ (cl_ Try.func25 (h := fun env => ⟨_, ((rin_any (sgi l i).f (-1048576) 1048576).eq (congrArg Value.bool gF)), rfl⟩)) <| c_ (un0 bT) <| c_ (pk0 bF bT bF) <| c_ mv_ <| c_ (fa0 (vP (pb E6 4) 0)) <| c_ (ld_ 0 (hrd := by exact rd3 rfl)) <| c_ (cl_ Try.func25 (h := fun env => ⟨_, ((rin_any (sgi l i).b (-1000000000) 1000000000).eq (congrArg Value.bool gB)), rfl⟩)) <| c_ (un0 bF) <| c_ (pk0 bF bT bT) <| c_ mv_ <| c_ off_ <| c_ off_ <| c_ off_ <| c_ off_ <| c_ (pk0 bT bT undef) <| c_ mv_ <| c_ off_ <| c_ off_ <| c_ off_ <| c_ off_ <| c_ off_ <| c_ off_ <| c_ off_ <| c_ (pk0 bT bT undef) <| e_) (k := fun E7 ac wd h_7 => ?_)
  clear h_6
  refine then_n ?_
  refine cT_ h_7 ?_
  refine wp_seq ?_
  refine rf_ h_7 [[0]] [K_ bF] (fun E8 => [(0, .slice A0 l.length c0), (1, vI day), (2, vI off), (6, bF), (7, vN i), (8, vP (pb E6 4) 0), (26, vN i), (27, .slice A0 l.length c0), (28, vN l.length), (29, bT), (32, .slice A0 l.length c0), (33, vN i), (34, elt (.slice A0 l.length c0) (i * 4)), (35, vSg (sgi l i)), (36, vP (pb E6 4) 0), (37, vI ((sgi l i).d)), (38, bT), (39, bF), (40, bF), (41, vP (pb E6 4) 2), (42, vI ((sgi l i).f)), (43, bT), (44, bF), (45, bF), (46, bF), (47, vP (pb E6 4) 1), (48, vI ((sgi l i).b)), (49, bF), (50, bT), (51, bT), (52, bT), (53, undef), (54, undef), (55, undef), (56, undef), (57, bT), (58, bT), (59, undef), (60, undef), (61, undef), (62, undef), (63, undef), (64, undef), (65, undef), (66, bT)]) (hs := c_ mv_ <| e_) (k := fun E8 ac wd h_8 => ?_)
  clear h_7
  refine then_n (wp_ret (blk_ret (then_ret (then_ret (blk_ret (then_ret ?_))))))
  refine lvT Try.results9 h_8 ?_
  have hres : mayS l day off = false := by (have hq : szA l day i = false := (by simp [szA, szS, gD, gF, gB] <;> omega)); simp [mayS, szL, all_no h1 hq]
  exact ⟨by rw [hres], h_8.st.below⟩
  cases gR : wthn (sgi l i).r 0 1000000
  refine rf_ h_6 [[0],[0,1],[0,1,2],r_ 4,r_ 5,r_ 6,r_ 7,r_ 8,r_ 9,r_ 10,r_ 11,r_ 12,r_ 13,r_ 14,r_ 15,r_ 16,r_ 17,r_ 18,r_ 19,r_ 20,r_ 21,r_ 22,r_ 23,r_ 24,[0,1,2,3,4,5,6,7,8,9,10,11,12,13,14,15,16,17,18,19,20,21,22,24],[0,1,2,3,4,5,6,7,8,9,10,11,12,13,14,15,16,17,18,19,20,21,22,25],r_ 27,[0,1,2,3,4,5,6,7,8,9,10,11,12,13,14,15,16,17,18,19,20,21,22,27],[0,1,2,3,4,5,6,7,8,9,10,11,12,13,14,15,16,17,18,19,20,21,22,27,28],r_ 30,r_ 31] [K_ (vP (pb E6 4) 0), K_ (vI ((sgi l i).d)), K_ bT, K_ bF, K_ bF, K_ (vP (pb E6 4) 2), K_ (vI ((sgi l i).f)), K_ bT, K_ bF, K_ bF, K_ bF, K_ (vP (pb E6 4) 1), K_ (vI ((sgi l i).b)), K_ bT, K_ bF, K_ bF, K_ bF, K_ (vP (pb E6 4) 3), K_ (vI ((sgi l i).r)), K_ bF, K_ bT, K_ bT, K_ bT, K_ undef, K_ undef, K_ undef, K_ undef, K_ undef, K_ undef, K_ undef, K_ bT] (fun E7 => [(0, .slice A0 l.length c0), (1, vI day), (2, vI off), (7, vN i), (8, vP (pb E6 4) 0), (26, vN i), (27, .slice A0 l.length c0), (28, vN l.length), (29, bT), (32, .slice A0 l.length c0), (33, vN i), (34, elt (.slice A0 l.length c0) (i * 4)), (35, vSg (sgi l i)), (36, vP (pb E6 4) 0), (37, vI ((sgi l i).d)), (38, bT), (39, bF), (40, bF), (41, vP (pb E6 4) 2), (42, vI ((sgi l i).f)), (43, bT), (44, bF), (45, bF), (46, bF), (47, vP (pb E6 4) 1), (48, vI ((sgi l i).b)), (49, bT), (50, bF), (51, bF), (52, bF), (53, vP (pb E6 4) 3), (54, vI ((sgi l i).r)), (55, bF), (56, bT), (57, bT), (58, bT), (59, undef), (60, undef), (61, undef), (62, undef), (63, undef), (64, undef), (65, undef), (66, bT)]) (hs := c_ (fa0 (vP (pb E6 4) 0)) <| c_ (ld_ 0 (hrd := by exact rd3 rfl)) <| c_ (cl_ Try.func25 (h := fun env => ⟨_, ((rin_any (sgi l i).d (-1048576) 1048576).eq (congrArg Value.bool gD)), rfl⟩)) <| c_ (un0 bT) <| c_ mv_ <| c_ (fa0 (vP (pb E6 4) 0)) <| c_ (ld_ 0 (hrd := by exact rd3 rfl)) <| c_ (cl_ Try.func25 (h := fun env => ⟨_, ((rin_any (sgi l i).f (-1048576) 1048576).eq (congrArg Value.bool gF)), rfl⟩)) <| c_ (un0 bT) <| c_ (pk0 bF bT bF) <| c_ mv_ <| c_ (fa0 (vP (pb E6 4) 0)) <| c_ (ld_ 0 (hrd := by exact rd3 rfl)) <| c_ (cl_ Try.func25 (h := fun env => ⟨_, ((rin_any (sgi l i).b (-1000000000) 1000000000).eq (congrArg Value.bool gB)), rfl⟩)) <| c_ (un0 bT) <| c_ (pk0 bF bT bF) <| c_ mv_ <| c_ (fa0 (vP (pb E6 4) 0)) <| c_ (ld_ 0 (hrd := by exact rd3 rfl)) <| c_ (cl_ Try.func25 (h := fun env => ⟨_, ((rin_any (sgi l i).r 0 1000000).eq (congrArg Value.bool gR)), rfl⟩)) <| c_ (un0 bF) <| c_ (pk0 bF bT bT) <| c_ mv_ <| c_ off_ <| c_ off_ <| c_ off_ <| c_ off_ <| c_ off_ <| c_ off_ <| c_ off_ <| c_ (pk0 bT bT undef) <| e_) (k := fun E7 ac wd h_7 => ?_)
  clear h_6
  refine then_n ?_
  refine cT_ h_7 ?_
  refine wp_seq ?_
  refine rf_ h_7 [[0]] [K_ bF] (fun E8 => [(0, .slice A0 l.length c0), (1, vI day), (2, vI off), (6, bF), (7, vN i), (8, vP (pb E6 4) 0), (26, vN i), (27, .slice A0 l.length c0), (28, vN l.length), (29, bT), (32, .slice A0 l.length c0), (33, vN i), (34, elt (.slice A0 l.length c0) (i * 4)), (35, vSg (sgi l i)), (36, vP (pb E6 4) 0), (37, vI ((sgi l i).d)), (38, bT), (39, bF), (40, bF), (41, vP (pb E6 4) 2), (42, vI ((sgi l i).f)), (43, bT), (44, bF), (45, bF), (46, bF), (47, vP (pb E6 4) 1), (48, vI ((sgi l i).b)), (49, bT), (50, bF), (51, bF), (52, bF), (53, vP (pb E6 4) 3), (54, vI ((sgi l i).r)), (55, bF), (56, bT), (57, bT), (58, bT), (59, undef), (60, undef), (61, undef), (62, undef), (63, undef), (64, undef), (65, undef), (66, bT)]) (hs := c_ mv_ <| e_) (k := fun E8 ac wd h_8 => ?_)
  clear h_7
  refine then_n (wp_ret (blk_ret (then_ret (then_ret (blk_ret (then_ret ?_))))))
  refine lvT Try.results9 h_8 ?_
  have hres : mayS l day off = false := by (have hq : szA l day i = false := (by simp [szA, szS, gD, gF, gB, gR] <;> omega)); simp [mayS, szL, all_no h1 hq]
  exact ⟨by rw [hres], h_8.st.below⟩
  by_cases hU : untS l day i ≤ (sgi l i).d
  refine rf_ h_6 [[0],[0,1],[0,1,2],r_ 4,r_ 5,r_ 6,r_ 7,r_ 8,r_ 9,r_ 10,r_ 11,r_ 12,r_ 13,r_ 14,r_ 15,r_ 16,r_ 17,r_ 18,r_ 19,r_ 20,r_ 21,r_ 22,r_ 23,r_ 24,[0,1,2,3,4,5,6,7,8,9,10,11,12,13,14,15,16,17,18,19,20,21,22,24],[0,1,2,3,4,5,6,7,8,9,10,11,12,13,14,15,16,17,18,19,20,21,22,25],r_ 27,[0,1,2,3,4,5,6,7,8,9,10,11,12,13,14,15,16,17,18,19,20,21,22,27],[0,1,2,3,4,5,6,7,8,9,10,11,12,13,14,15,16,17,18,19,20,21,22,27,28],r_ 30,r_ 31] [K_ (vP (pb E6 4) 0), K_ (vI ((sgi l i).d)), K_ bT, K_ bF, K_ bF, K_ (vP (pb E6 4) 2), K_ (vI ((sgi l i).f)), K_ bT, K_ bF, K_ bF, K_ bF, K_ (vP (pb E6 4) 1), K_ (vI ((sgi l i).b)), K_ bT, K_ bF, K_ bF, K_ bF, K_ (vP (pb E6 4) 3), K_ (vI ((sgi l i).r)), K_ bT, K_ bF, K_ bF, K_ bF, K_ (.slice A0 l.length c0), K_ (vI day), K_ (vN i), K_ (vI (untS l day i)), K_ (vP (pb E6 4) 0), K_ (vI ((sgi l i).d)), K_ bT, K_ bT] (fun E7 => [(0, .slice A0 l.length c0), (1, vI day), (2, vI off), (7, vN i), (8, vP (pb E6 4) 0), (26, vN i), (27, .slice A0 l.length c0), (28, vN l.length), (29, bT), (32, .slice A0 l.length c0), (33, vN i), (34, elt (.slice A0 l.length c0) (i * 4)), (35, vSg (sgi l i)), (36, vP (pb E6 4) 0), (37, vI ((sgi l i).d)), (38, bT), (39, bF), (40, bF), (41, vP (pb E6 4) 2), (42, vI ((sgi l i).f)), (43, bT), (44, bF), (45, bF), (46, bF), (47, vP (pb E6 4) 1), (48, vI ((sgi l i).b)), (49, bT), (50, bF), (51, bF), (52, bF), (53, vP (pb E6 4) 3), (54, vI ((sgi l i).r)), (55, bT), (56, bF), (57, bF), (58, bF), (59, .slice A0 l.length c0), (60, vI day), (61, vN i), (62, vI (untS l day i)), (63, vP (pb E6 4) 0), (64, vI ((sgi l i).d)), (65, bT), (66, bT)]) (hs := c_ (fa0 (vP (pb E6 4) 0)) <| c_ (ld_ 0 (hrd := by exact rd3 rfl)) <| c_ (cl_ Try.func25 (h := fun env => ⟨_, ((rin_any (sgi l i).d (-1048576) 1048576).eq (congrArg Value.bool gD)), rfl⟩)) <| c_ (un0 bT) <| c_ mv_ <| c_ (fa0 (vP (pb E6 4) 0)) <| c_ (ld_ 0 (hrd := by exact rd3 rfl)) <| c_ (cl_ Try.func25 (h := fun env => ⟨_, ((rin_any (sgi l i).f (-1048576) 1048576).eq (congrArg Value.bool gF)), rfl⟩)) <| c_ (un0 bT) <| c_ (pk0 bF bT bF) <| c_ mv_ <| c_ (fa0 (vP (pb E6 4) 0)) <| c_ (ld_ 0 (hrd := by exact rd3 rfl)) <| c_ (cl_ Try.func25 (h := fun env => ⟨_, ((rin_any (sgi l i).b (-1000000000) 1000000000).eq (congrArg Value.bool gB)), rfl⟩)) <| c_ (un0 bT) <| c_ (pk0 bF bT bF) <| c_ mv_ <| c_ (fa0 (vP (pb E6 4) 0)) <| c_ (ld_ 0 (hrd := by exact rd3 rfl)) <| c_ (cl_ Try.func25 (h := fun env => ⟨_, ((rin_any (sgi l i).r 0 1000000).eq (congrArg Value.bool gR)), rfl⟩)) <| c_ (un0 bT) <| c_ (pk0 bF bT bF) <| c_ mv_ <| c_ (gm0 (.slice A0 l.length c0)) <| c_ (gm0 (vI day)) <| c_ (gm0 (vN i)) <| c_ (cw_ Try.func26 (h := fun _ env _ wd hA => ⟨_, Until_any wd A0 c0 l (hl.grown hA.j.st.gr) day i (by omega), rfl⟩)) <| c_ (fa0 (vP (pb E6 4) 0)) <| c_ (ld_ 0 (hrd := by exact rd3 rfl)) <| c_ (bi0 (vI (untS l day i)) (vI ((sgi l i).d)) (h := by intro env w; simp [go_sem, hU])) <| c_ (pk0 bF bT bT (h := by intro env w; simp [go_sem, hU])) <| e_) (k := fun E7 ac wd h_7 => ?_)
  clear h_6
  refine then_n ?_
  refine cT_ h_7 ?_
  refine wp_seq ?_
  refine rf_ h_7 [[0]] [K_ bF] (fun E8 => [(0, .slice A0 l.length c0), (1, vI day), (2, vI off), (6, bF), (7, vN i), (8, vP (pb E6 4) 0), (26, vN i), (27, .slice A0 l.length c0), (28, vN l.length), (29, bT), (32, .slice A0 l.length c0), (33, vN i), (34, elt (.slice A0 l.length c0) (i * 4)), (35, vSg (sgi l i)), (36, vP (pb E6 4) 0), (37, vI ((sgi l i).d)), (38, bT), (39, bF), (40, bF), (41, vP (pb E6 4) 2), (42, vI ((sgi l i).f)), (43, bT), (44, bF), (45, bF), (46, bF), (47, vP (pb E6 4) 1), (48, vI ((sgi l i).b)), (49, bT), (50, bF), (51, bF), (52, bF), (53, vP (pb E6 4) 3), (54, vI ((sgi l i).r)), (55, bT), (56, bF), (57, bF), (58, bF), (59, .slice A0 l.length c0), (60, vI day), (61, vN i), (62, vI (untS l day i)), (63, vP (pb E6 4) 0), (64, vI ((sgi l i).d)), (65, bT), (66, bT)]) (hs := c_ mv_ <| e_) (k := fun E8 ac wd h_8 => ?_)
  clear h_7
  refine then_n (wp_ret (blk_ret (then_ret (then_ret (blk_ret (then_ret ?_))))))
  refine lvT Try.results9 h_8 ?_
  have hres : mayS l day off = false := by (have hq : szA l day i = false := (by simp [szA, szS, gD, gF, gB, gR] <;> omega)); simp [mayS, szL, all_no h1 hq]
  exact ⟨by rw [hres], h_8.st.below⟩
  refine rf_ h_6 [[0],[0,1],[0,1,2],r_ 4,r_ 5,r_ 6,r_ 7,r_ 8,r_ 9,r_ 10,r_ 11,r_ 12,r_ 13,r_ 14,r_ 15,r_ 16,r_ 17,r_ 18,r_ 19,r_ 20,r_ 21,r_ 22,r_ 23,r_ 24,[0,1,2,3,4,5,6,7,8,9,10,11,12,13,14,15,16,17,18,19,20,21,22,24],[0,1,2,3,4,5,6,7,8,9,10,11,12,13,14,15,16,17,18,19,20,21,22,25],r_ 27,[0,1,2,3,4,5,6,7,8,9,10,11,12,13,14,15,16,17,18,19,20,21,22,27],[0,1,2,3,4,5,6,7,8,9,10,11,12,13,14,15,16,17,18,19,20,21,22,27,28],r_ 30,r_ 31] [K_ (vP (pb E6 4) 0), K_ (vI ((sgi l i).d)), K_ bT, K_ bF, K_ bF, K_ (vP (pb E6 4) 2), K_ (vI ((sgi l i).f)), K_ bT, K_ bF, K_ bF, K_ bF, K_ (vP (pb E6 4) 1), K_ (vI ((sgi l i).b)), K_ bT, K_ bF, K_ bF, K_ bF, K_ (vP (pb E6 4) 3), K_ (vI ((sgi l i).r)), K_ bT, K_ bF, K_ bF, K_ bF, K_ (.slice A0 l.length c0), K_ (vI day), K_ (vN i), K_ (vI (untS l day i)), K_ (vP (pb E6 4) 0), K_ (vI ((sgi l i).d)), K_ bF, K_ bF] (fun E7 => [(0, .slice A0 l.length c0), (1, vI day), (2, vI off), (7, vN i), (8, vP (pb E6 4) 0), (26, vN i), (27, .slice A0 l.length c0), (28, vN l.length), (29, bT), (32, .slice A0 l.length c0), (33, vN i), (34, elt (.slice A0 l.length c0) (i * 4)), (35, vSg (sgi l i)), (36, vP (pb E6 4) 0), (37, vI ((sgi l i).d)), (38, bT), (39, bF), (40, bF), (41, vP (pb E6 4) 2), (42, vI ((sgi l i).f)), (43, bT), (44, bF), (45, bF), (46, bF), (47, vP (pb E6 4) 1), (48, vI ((sgi l i).b)), (49, bT), (50, bF), (51, bF), (52, bF), (53, vP (pb E6 4) 3), (54, vI ((sgi l i).r)), (55, bT), (56, bF), (57, bF), (58, bF), (59, .slice A0 l.length c0), (60, vI day), (61, vN i), (62, vI (untS l day i)), (63, vP (pb E6 4) 0), (64, vI ((sgi l i).d)), (65, bF), (66, bF)]) (hs := c_ (fa0 (vP (pb E6 4) 0)) <| c_ (ld_ 0 (hrd := by exact rd3 rfl)) <| c_ (cl_ Try.func25 (h := fun env => ⟨_, ((rin_any (sgi l i).d (-1048576) 1048576).eq (congrArg Value.bool gD)), rfl⟩)) <| c_ (un0 bT) <| c_ mv_ <| c_ (fa0 (vP (pb E6 4) 0)) <| c_ (ld_ 0 (hrd := by exact rd3 rfl)) <| c_ (cl_ Try.func25 (h := fun env => ⟨_, ((rin_any (sgi l i).f (-1048576) 1048576).eq (congrArg Value.bool gF)), rfl⟩)) <| c_ (un0 bT) <| c_ (pk0 bF bT bF) <| c_ mv_ <| c_ (fa0 (vP (pb E6 4) 0)) <| c_ (ld_ 0 (hrd := by exact rd3 rfl)) <| c_ (cl_ Try.func25 (h := fun env => ⟨_, ((rin_any (sgi l i).b (-1000000000) 1000000000).eq (congrArg Value.bool gB)), rfl⟩)) <| c_ (un0 bT) <| c_ (pk0 bF bT bF) <| c_ mv_ <| c_ (fa0 (vP (pb E6 4) 0)) <| c_ (ld_ 0 (hrd := by exact rd3 rfl)) <| c_ (cl_ Try.func25 (h := fun env => ⟨_, ((rin_any (sgi l i).r 0 1000000).eq (congrArg Value.bool gR)), rfl⟩)) <| c_ (un0 bT) <| c_ (pk0 bF bT bF) <| c_ mv_ <| c_ (gm0 (.slice A0 l.length c0)) <| c_ (gm0 (vI day)) <| c_ (gm0 (vN i)) <| c_ (cw_ Try.func26 (h := fun _ env _ wd hA => ⟨_, Until_any wd A0 c0 l (hl.grown hA.j.st.gr) day i (by omega), rfl⟩)) <| c_ (fa0 (vP (pb E6 4) 0)) <| c_ (ld_ 0 (hrd := by exact rd3 rfl)) <| c_ (bi0 (vI (untS l day i)) (vI ((sgi l i).d)) (h := by intro env w; simp [go_sem, hU])) <| c_ (pk0 bF bT bF (h := by intro env w; simp [go_sem, hU])) <| e_) (k := fun E7 ac wd h_7 => ?_)
  clear h_6
  refine then_n ?_
  refine cF_ h_7 ?_
  refine wp_skip (blk_n (then_n ?_))
  refine rf_ h_7 (tri 3) [K_ (vN i), K_ (vI (((i : Nat) : Int) + 1)), K_ (vI (((i : Nat) : Int) + 1))] (fun E8 => [(0, .slice A0 l.length c0), (1, vI day), (2, vI off), (7, vI (((i : Nat) : Int) + 1)), (8, vP (pb E6 4) 0), (26, vN i), (27, .slice A0 l.length c0), (28, vN l.length), (29, bT), (30, vN i), (31, vI (((i : Nat) : Int) + 1)), (32, .slice A0 l.length c0), (33, vN i), (34, elt (.slice A0 l.length c0) (i * 4)), (35, vSg (sgi l i)), (36, vP (pb E6 4) 0), (37, vI ((sgi l i).d)), (38, bT), (39, bF), (40, bF), (41, vP (pb E6 4) 2), (42, vI ((sgi l i).f)), (43, bT), (44, bF), (45, bF), (46, bF), (47, vP (pb E6 4) 1), (48, vI ((sgi l i).b)), (49, bT), (50, bF), (51, bF), (52, bF), (53, vP (pb E6 4) 3), (54, vI ((sgi l i).r)), (55, bT), (56, bF), (57, bF), (58, bF), (59, .slice A0 l.length c0), (60, vI day), (61, vN i), (62, vI (untS l day i)), (63, vP (pb E6 4) 0), (64, vI ((sgi l i).d)), (65, bF), (66, bF)]) (hs := c_ mv_ <| c_ (bi0 (vN i) (vI 1)) <| c_ mv_ <| e_) (k := fun E8 ac wd h_8 => ?_)
  clear h_7
  refine then_n ?_
  have hq : szA l day i = true := by simp [szA, szS, gD, gF, gB, gR]; omega
  exact ⟨⟨i + 1, ⟨by omega, steps_snoc (p := fun j => szA l day j = true) hi2 hq⟩, ((h_8.take (M1 := []) rfl).sel [] rfl).re rfl⟩, by rw [sI_eq (h_8.g (t := 7) rfl), hmu]; omega⟩
  obtain rfl : i = l.length := by omega
  refine rf_ h_4 [[0],[1],[1,2],r_ 4] [K_ (vN l.length), K_ (.slice A0 l.length c0), K_ (vN l.length), K_ bF] (fun E5 => [(0, .slice A0 l.length c0), (1, vI day), (2, vI off), (7, vN l.length), (26, vN l.length), (27, .slice A0 l.length c0), (28, vN l.length), (29, bF)]) (hs := c_ mv_ <| c_ mv_ <| c_ (ln_ Try.underlying22 fun _ env _ wd hA => (hl.grown hA.j.st.gr).els) <| c_ (bi0 (vN l.length) (vN l.length)) <| e_) (k := fun E5 ac wd h_5 => ?_)
  clear h_4
  refine then_n ?_
  refine cF_ h_5 ?_
  refine wp_exit (then_e (then_e (blk_x (then_n (wp_seq (wp_seq ?_))))))
  have hsz : szL l day off = true := by simp [szL, szH, hA, hB, hC, all_yes hi2]
  have hL := szL_ok hsz
  refine rf_ h_5 [[0]] [K_ (vI 0)] (fun E6 => [(0, .slice A0 l.length c0), (1, vI day), (2, vI off), (9, vI 0)]) (hs := c_ mv_ <| e_) (k := fun E6 ac wd h_6 => ?_)
  clear h_5
  refine then_n (wp_block ?_)
  refine wp_loop (fun ac wd => ∃ i : Nat, (i ≤ l.length ∧ ∀ j, j < i → stB l day off j = true) ∧ Cur 107 w0 none none (Facts []) (fun _ => True) [(0, .slice A0 l.length c0), (1, vI day), (2, vI off), (9, vN i)] [] ac wd) (fun ac _ => ((l.length : Int) - sI ac 9).toNat) ⟨0, ⟨by omega, fun j hj => by omega⟩, (h_6.re rfl).th (fun _ h => h)⟩ ?_
  rintro ac wd ⟨i, ⟨hi3, hi4⟩, h_7⟩
  clear h_6
  have hmu : sI ac 9 = ((i : Nat) : Int) := sI_eq (h_7.g (t := 9) rfl)
  refine wp_seq (wp_seq ?_)
  by_cases h1 : i < l.length
  have hs := hL.seg i h1; have h2 := hs.d0; have h3 := hs.d1; have u0 := hL.unt_ge h1; have u1 := hL.unt_day h1; have hE := hL.end_bd h1; have y0 := hL.y0; have y1 := hL.y1; have o0 := hL.o0; have o1 := hL.o1; have n1 := hL.n1
  refine rf_ h_7 [[0],[1],[1,2],r_ 4] [K_ (vN i), K_ (.slice A0 l.length c0), K_ (vN l.length), K_ bT] (fun E8 => [(0, .slice A0 l.length c0), (1, vI day), (2, vI off), (9, vN i), (67, vN i), (68, .slice A0 l.length c0), (69, vN l.length), (70, bT)]) (hs := c_ mv_ <| c_ mv_ <| c_ (ln_ Try.underlying22 fun _ env _ wd hA => (hl.grown hA.j.st.gr).els) <| c_ (bi0 (vN i) (vN l.length)) <| e_) (k := fun E8 ac wd h_8 => ?_)
  clear h_7
  refine then_n ?_
  refine cT_ h_8 ?_
  refine wp_skip (then_n (wp_seq (wp_block (wp_seq ?_))))
  refine rf_ h_8 [[0],[1],[2],r_ 4,[4],[5],[6],[7],r_ 9,[9],r_ 11,r_ 12] [K_ (.slice A0 l.length c0), K_ (vI day), K_ (vN i), K_ (vI (untS l day i)), K_ (.slice A0 l.length c0), K_ (vI day), K_ (vI off), K_ (vN i), KE_ fun env => bigF (endS l day off i) (env 8), KE_ fun env => vP (pb env 9) 0, K_ (vI (untS l day i)), none] (fun E9 => [(0, .slice A0 l.length c0), (1, vI day), (2, vI off), (9, vN i), (10, vI (untS l day i)), (11, vP (pb E9 9) 0), (67, vN i), (68, .slice A0 l.length c0), (69, vN l.length), (70, bT), (73, .slice A0 l.length c0), (74, vI day), (75, vN i), (76, vI (untS l day i)), (77, .slice A0 l.length c0), (78, vI day), (79, vI off), (80, vN i), (81, bigF (endS l day off i) (E9 8))]) (W := [{ i := 9, T := 46, c0 := [bF, .slice none 0 0], s := some 11, c1 := fun env => [.bool (decide (endS l day off i < 0)), rS (endS l day off i) ((bA (env 8))) ((bC (env 8)))] }]) (F := [(8, fun env w => BigN w0.heap.size w (env 8) (endS l day off i))]) (L1 := fun E9 => [fun w => BigN w0.heap.size w (E9 8) (endS l day off i)]) (M' := fun E9 => [((pb E9 9), 46, [.bool (decide (endS l day off i < 0)), rS (endS l day off i) ((bA (E9 8))) ((bC (E9 8)))])]) (hs := c_ mv_ <| c_ mv_ <| c_ mv_ <| c_ (cw_ Try.func26 (h := fun _ env _ wd hA => ⟨_, Until_any wd A0 c0 l (hl.grown hA.j.st.gr) day i (by omega), rfl⟩)) <| c_ mv_ <| c_ mv_ <| c_ mv_ <| c_ mv_ <| c_ (cb_ Try.func27 (endS l day off i) (h := fun _ env _ wd hA => ⟨_, End_any wd A0 c0 l (hl.grown hA.j.st.gr) day off hL i (by omega), rfl⟩)) <| c_ (al_ 0) <| c_ mv_ <| c_ (sw_ 0 9 (hst := by exact fun _ _ _ hc => st46 rfl rfl rfl hc)) <| e_) (k := fun E9 ac wd h_9 => ?_)
  clear h_8
  refine then_n (wp_seq ?_)
  by_cases hV : endS l day off i ≤ fS (sgi l i) (jn (untS l day i - 1) 0 0)
  refine rf_ h_9 [[0],[1],[2],[1,2,3],[1,2,3,4],[5],[5,6],[5,6,7],[5,6,7,8],[1,2,3,4,5,6,7,8,9],r_ 11,r_ 12,r_ 13,r_ 14,[0,1,2,3,4,5,6,7,8,9,10,11,12,14],[0,1,2,3,4,5,6,7,8,9,10,11,12,15],[0,1,2,3,4,5,6,7,8,9,10,11,12,14,15,16],[0,1,2,3,4,5,6,7,8,9,10,11,12,14,15,16,17],[0,1,2,3,4,5,6,7,8,9,10,11,12,18],[0,1,2,3,4,5,6,7,8,9,10,11,12,18,19],[0,1,2,3,4,5,6,7,8,9,10,11,12,18,19,20],[0,1,2,3,4,5,6,7,8,9,10,11,12,14,15,16,17,18,19,20,21],r_ 23,r_ 24,r_ 25] [K_ (bigF (endS l day off i) (E9 8)), K_ (.slice A0 l.length c0), K_ (vN i), K_ (elt (.slice A0 l.length c0) (i * 4)), K_ (vSg (sgi l i)), K_ (vI (untS l day i)), K_ (vI ((untS l day i) - 1)), K_ (vL ((untS l day i) - 1) 0 0), KE_ fun env => bigF (jn ((untS l day i) - 1) 0 0) (env 8), KE_ fun env => bigF (fS (sgi l i) (jn ((untS l day i) - 1) 0 0)) (env 9), K_ (vI (cmpZ (endS l day off i) (fS (sgi l i) (jn ((untS l day i) - 1) 0 0)))), K_ bT, K_ bT, K_ undef, K_ undef, K_ undef, K_ undef, K_ undef, K_ undef, K_ undef, K_ undef, K_ undef, K_ undef, K_ undef, K_ bT] (fun E10 => [(0, .slice A0 l.length c0), (1, vI day), (2, vI off), (9, vN i), (10, vI (untS l day i)), (11, vP (pb E9 9) 0), (67, vN i), (68, .slice A0 l.length c0), (69, vN l.length), (70, bT), (73, .slice A0 l.length c0), (74, vI day), (75, vN i), (76, vI (untS l day i)), (77, .slice A0 l.length c0), (78, vI day), (79, vI off), (80, vN i), (81, bigF (endS l day off i) (E9 8)), (82, bigF (endS l day off i) (E9 8)), (83, .slice A0 l.length c0), (84, vN i), (85, elt (.slice A0 l.length c0) (i * 4)), (86, vSg (sgi l i)), (87, vI (untS l day i)), (88, vI ((untS l day i) - 1)), (89, vL ((untS l day i) - 1) 0 0), (90, bigF (jn ((untS l day i) - 1) 0 0) (E10 8)), (91, bigF (fS (sgi l i) (jn ((untS l day i) - 1) 0 0)) (E10 9)), (92, vI (cmpZ (endS l day off i) (fS (sgi l i) (jn ((untS l day i) - 1) 0 0)))), (93, bT), (94, bT), (95, undef), (96, undef), (97, undef), (98, undef), (99, undef), (100, undef), (101, undef), (102, undef), (103, undef), (104, undef), (105, undef), (106, bT)]) (F := [(8, fun env w => BigN w0.heap.size w (env 8) (jn ((untS l day i) - 1) 0 0)), (9, fun env w => BigN w0.heap.size w (env 9) (fS (sgi l i) (jn ((untS l day i) - 1) 0 0)))]) (L1 := fun E10 => [fun w => BigN w0.heap.size w (E9 8) (endS l day off i), fun w => BigN w0.heap.size w (E10 8) (jn ((untS l day i) - 1) 0 0), fun w => BigN w0.heap.size w (E10 9) (fS (sgi l i) (jn ((untS l day i) - 1) 0 0))]) (hs := c_ (ld_ 0 (hrd := by exact rd46 rfl rfl)) <| c_ mv_ <| c_ mv_ <| c_ (ia_ Try.underlying22 sz25 i (i * 4) ((i : Nat) : Int) (fun _ env _ wd hA => (hl.grown hA.j.st.gr).els) (rfl) (by omega) rfl) <| c_ (le_ (i * 4) (fun _ env _ wd hA => (hl.grown hA.j.st.gr).els) (by omega) (le25 (by exact sgC_0 l i) (by exact sgC_1 l i) (by exact sgC_2 l i) (by exact sgC_3 l i))) <| c_ mv_ <| c_ (bi0 (vI (untS l day i)) (vI 1)) <| c_ (bd0 ([vI ((untS l day i) - 1)])) <| c_ (cb_ Try.func23 (jn ((untS l day i) - 1) 0 0) (h := fun _ env _ wd hA => ⟨_, Join_any wd ((untS l day i) - 1) 0 0 (by omega) (by omega) (by omega) (by omega) (by omega) (by omega), rfl⟩)) <| c_ (cb_ Try.func29 (fS (sgi l i) (jn ((untS l day i) - 1) 0 0)) (h := fun _ env _ wd hA => ⟨_, F_any wd (sgi l i) hs _ (bA (env 8)) (bC (env 8)) (jn ((untS l day i) - 1) 0 0) rfl (At.bigN hA 8 rfl rfl rfl) (by unfold jn; omega) (by unfold jn; omega), rfl⟩)) <| c_ (cw_ Try.func28 (h := fun _ env _ wd hA => ⟨_, Cmp_any wd (decide (endS l day off i < 0)) (bA (E9 8)) (bC (E9 8)) (endS l day off i) rfl (Facts.bigN (hA.j.st.now).1 0 rfl)  (decide (fS (sgi l i) (jn ((untS l day i) - 1) 0 0) < 0)) (bA (env 9)) (bC (env 9)) (fS (sgi l i) (jn ((untS l day i) - 1) 0 0)) rfl (At.bigN hA 9 rfl rfl rfl) , rfl⟩)) <| c_ (bi0 (vI (cmpZ (endS l day off i) (fS (sgi l i) (jn ((untS l day i) - 1) 0 0)))) (vI 0) (h := by intro env w; simp [go_sem, cmpZ_le, cmpZ_lt, cmpZ_ge, cmpZ_gt, hV])) <| c_ mv_ <| c_ off_ <| c_ off_ <| c_ off_ <| c_ off_ <| c_ off_ <| c_ off_ <| c_ off_ <| c_ off_ <| c_ off_ <| c_ off_ <| c_ off_ <| c_ (pk0 bT bT undef) <| e_) (k := fun E10 ac wd h_10 => ?_)
  clear h_9
  refine then_n ?_
  refine cT_ h_10 ?_
  refine wp_seq ?_
  refine rf_ h_10 [[0]] [K_ bF] (fun E11 => [(0, .slice A0 l.length c0), (1, vI day), (2, vI off), (6, bF), (9, vN i), (10, vI (untS l day i)), (11, vP (pb E9 9) 0), (67, vN i), (68, .slice A0 l.length c0), (69, vN l.length), (70, bT), (73, .slice A0 l.length c0), (74, vI day), (75, vN i), (76, vI (untS l day i)), (77, .slice A0 l.length c0), (78, vI day), (79, vI off), (80, vN i), (81, bigF (endS l day off i) (E9 8)), (82, bigF (endS l day off i) (E9 8)), (83, .slice A0 l.length c0), (84, vN i), (85, elt (.slice A0 l.length c0) (i * 4)), (86, vSg (sgi l i)), (87, vI (untS l day i)), (88, vI ((untS l day i) - 1)), (89, vL ((untS l day i) - 1) 0 0), (90, bigF (jn ((untS l day i) - 1) 0 0) (E10 8)), (91, bigF (fS (sgi l i) (jn ((untS l day i) - 1) 0 0)) (E10 9)), (92, vI (cmpZ (endS l day off i) (fS (sgi l i) (jn ((untS l day i) - 1) 0 0)))), (93, bT), (94, bT), (95, undef), (96, undef), (97, undef), (98, undef), (99, undef), (100, undef), (101, undef), (102, undef), (103, undef), (104, undef), (105, undef), (106, bT)]) (hs := c_ mv_ <| e_) (k := fun E11 ac wd h_11 => ?_)
  clear h_10
  refine then_n (wp_ret (blk_ret (then_ret (then_ret (blk_ret (then_ret ?_))))))
  refine lvT Try.results9 h_11 ?_
  have hres : mayS l day off = false := by (have hq : stB l day off i = false := (by simp [stB]; omega)); simp [mayS, all_no h1 hq]
  exact ⟨by rw [hres], h_11.st.below⟩
  by_cases hW : fS (sgi l i) (jn (untS l day i) 1 0) < endS l day off i
  refine rf_ h_9 [[0],[1],[2],[1,2,3],[1,2,3,4],[5],[5,6],[5,6,7],[5,6,7,8],[1,2,3,4,5,6,7,8,9],r_ 11,r_ 12,r_ 13,r_ 14,[0,1,2,3,4,5,6,7,8,9,10,11,12,14],[0,1,2,3,4,5,6,7,8,9,10,11,12,15],[0,1,2,3,4,5,6,7,8,9,10,11,12,14,15,16],[0,1,2,3,4,5,6,7,8,9,10,11,12,14,15,16,17],[0,1,2,3,4,5,6,7,8,9,10,11,12,18],[0,1,2,3,4,5,6,7,8,9,10,11,12,18,19],[0,1,2,3,4,5,6,7,8,9,10,11,12,18,19,20],[0,1,2,3,4,5,6,7,8,9,10,11,12,14,15,16,17,18,19,20,21],r_ 23,r_ 24,r_ 25] [K_ (bigF (endS l day off i) (E9 8)), K_ (.slice A0 l.length c0), K_ (vN i), K_ (elt (.slice A0 l.length c0) (i * 4)), K_ (vSg (sgi l i)), K_ (vI (untS l day i)), K_ (vI ((untS l day i) - 1)), K_ (vL ((untS l day i) - 1) 0 0), KE_ fun env => bigF (jn ((untS l day i) - 1) 0 0) (env 8), KE_ fun env => bigF (fS (sgi l i) (jn ((untS l day i) - 1) 0 0)) (env 9), K_ (vI (cmpZ (endS l day off i) (fS (sgi l i) (jn ((untS l day i) - 1) 0 0)))), K_ bF, K_ bF, K_ (bigF (endS l day off i) (E9 8)), K_ (.slice A0 l.length c0), K_ (vN i), K_ (elt (.slice A0 l.length c0) (i * 4)), K_ (vSg (sgi l i)), K_ (vI (untS l day i)), K_ (vL (untS l day i) 1 0), KE_ fun env => bigF (jn (untS l day i) 1 0) (env 20), KE_ fun env => bigF (fS (sgi l i) (jn (untS l day i) 1 0)) (env 21), K_ (vI (cmpZ (endS l day off i) (fS (sgi l i) (jn (untS l day i) 1 0)))), K_ bT, K_ bT] (fun E10 => [(0, .slice A0 l.length c0), (1, vI day), (2, vI off), (9, vN i), (10, vI (untS l day i)), (11, vP (pb E9 9) 0), (67, vN i), (68, .slice A0 l.length c0), (69, vN l.length), (70, bT), (73, .slice A0 l.length c0), (74, vI day), (75, vN i), (76, vI (untS l day i)), (77, .slice A0 l.length c0), (78, vI day), (79, vI off), (80, vN i), (81, bigF (endS l day off i) (E9 8)), (82, bigF (endS l day off i) (E9 8)), (83, .slice A0 l.length c0), (84, vN i), (85, elt (.slice A0 l.length c0) (i * 4)), (86, vSg (sgi l i)), (87, vI (untS l day i)), (88, vI ((untS l day i) - 1)), (89, vL ((untS l day i) - 1) 0 0), (90, bigF (jn ((untS l day i) - 1) 0 0) (E10 8)), (91, bigF (fS (sgi l i) (jn ((untS l day i) - 1) 0 0)) (E10 9)), (92, vI (cmpZ (endS l day off i) (fS (sgi l i) (jn ((untS l day i) - 1) 0 0)))), (93, bF), (94, bF), (95, bigF (endS l day off i) (E9 8)), (96, .slice A0 l.length c0), (97, vN i), (98, elt (.slice A0 l.length c0) (i * 4)), (99, vSg (sgi l i)), (100, vI (untS l day i)), (101, vL (untS l day i) 1 0), (102, bigF (jn (untS l day i) 1 0) (E10 20)), (103, bigF (fS (sgi l i) (jn (untS l day i) 1 0)) (E10 21)), (104, vI (cmpZ (endS l day off i) (fS (sgi l i) (jn (untS l day i) 1 0)))), (105, bT), (106, bT)]) (F := [(8, fun env w => BigN w0.heap.size w (env 8) (jn ((untS l day i) - 1) 0 0)), (9, fun env w => BigN w0.heap.size w (env 9) (fS (sgi l i) (jn ((untS l day i) - 1) 0 0))), (20, fun env w => BigN w0.heap.size w (env 20) (jn (untS l day i) 1 0)), (21, fun env w => BigN w0.heap.size w (env 21) (fS (sgi l i) (jn (untS l day i) 1 0)))]) (L1 := fun E10 => [fun w => BigN w0.heap.size w (E9 8) (endS l day off i), fun w => BigN w0.heap.size w (E10 8) (jn ((untS l day i) - 1) 0 0), fun w => BigN w0.heap.size w (E10 9) (fS (sgi l i) (jn ((untS l day i) - 1) 0 0)), fun w => BigN w0.heap.size w (E10 20) (jn (untS l day i) 1 0), fun w => BigN w0.heap.size w (E10 21) (fS (sgi l i) (jn (untS l day i) 1 0))]) (hs := c_ (ld_ 0 (hrd := by exact rd46 rfl rfl)) <| c_ mv_ <| c_ mv_ <| c_ (ia_ Try.underlying22 sz25 i (i * 4) ((i : Nat) : Int) (fun _ env _ wd hA => (hl.grown hA.j.st.gr).els) (rfl) (by omega) rfl) <| c_ (le_ (i * 4) (fun _ env _ wd hA => (hl.grown hA.j.st.gr).els) (by omega) (le25 (by exact sgC_0 l i) (by exact sgC_1 l i) (by exact sgC_2 l i) (by exact sgC_3 l i))) <| c_ mv_ <| c_ (bi0 (vI (untS l day i)) (vI 1)) <| c_ (bd0 ([vI ((untS l day i) - 1)])) <| c_ (cb_ Try.func23 (jn ((untS l day i) - 1) 0 0) (h := fun _ env _ wd hA => ⟨_, Join_any wd ((untS l day i) - 1) 0 0 (by omega) (by omega) (by omega) (by omega) (by omega) (by omega), rfl⟩)) <| c_ (cb_ Try.func29 (fS (sgi l i) (jn ((untS l day i) - 1) 0 0)) (h := fun _ env _ wd hA => ⟨_, F_any wd (sgi l i) hs _ (bA (env 8)) (bC (env 8)) (jn ((untS l day i) - 1) 0 0) rfl (At.bigN hA 8 rfl rfl rfl) (by unfold jn; omega) (by unfold jn; omega), rfl⟩)) <| c_ (cw_ Try.func28 (h := fun _ env _ wd hA => ⟨_, Cmp_any wd (decide (endS l day off i < 0)) (bA (E9 8)) (bC (E9 8)) (endS l day off i) rfl (Facts.bigN (hA.j.st.now).1 0 rfl)  (decide (fS (sgi l i) (jn ((untS l day i) - 1) 0 0) < 0)) (bA (env 9)) (bC (env 9)) (fS (sgi l i) (jn ((untS l day i) - 1) 0 0)) rfl (At.bigN hA 9 rfl rfl rfl) , rfl⟩)) <| c_ (bi0 (vI (cmpZ (endS l day off i) (fS (sgi l i) (jn ((untS l day i) - 1) 0 0)))) (vI 0) (h := by intro env w; simp [go_sem, cmpZ_le, cmpZ_lt, cmpZ_ge, cmpZ_gt, hV])) <| c_ mv_ <| c_ (ld_ 0 (hrd := by exact rd46 rfl rfl)) <| c_ (gm0 (.slice A0 l.length c0)) <| c_ (gm0 (vN i)) <| c_ (ia_ Try.underlying22 sz25 i (i * 4) ((i : Nat) : Int) (fun _ env _ wd hA => (hl.grown hA.j.st.gr).els) (rfl) (by omega) rfl) <| c_ (le_ (i * 4) (fun _ env _ wd hA => (hl.grown hA.j.st.gr).els) (by omega) (le25 (by exact sgC_0 l i) (by exact sgC_1 l i) (by exact sgC_2 l i) (by exact sgC_3 l i))) <| c_ (gm0 (vI (untS l day i))) <| c_ (bd0 ([vI (untS l day i), vI 1])) <| c_ (cb_ Try.func23 (jn (untS l day i) 1 0) (h := fun _ env _ wd hA => ⟨_, Join_any wd (untS l day i) 1 0 (by omega) (by omega) (by omega) (by omega) (by omega) (by omega), rfl⟩)) <| c_ (cb_ Try.func29 (fS (sgi l i) (jn (untS l day i) 1 0)) (h := fun _ env _ wd hA => ⟨_, F_any wd (sgi l i) hs _ (bA (env 20)) (bC (env 20)) (jn (untS l day i) 1 0) rfl (At.bigN hA 20 rfl rfl rfl) (by unfold jn; omega) (by unfold jn; omega), rfl⟩)) <| c_ (cw_ Try.func28 (h := fun _ env _ wd hA => ⟨_, Cmp_any wd (decide (endS l day off i < 0)) (bA (E9 8)) (bC (E9 8)) (endS l day off i) rfl (Facts.bigN (hA.j.st.now).1 0 rfl)  (decide (fS (sgi l i) (jn (untS l day i) 1 0) < 0)) (bA (env 21)) (bC (env 21)) (fS (sgi l i) (jn (untS l day i) 1 0)) rfl (At.bigN hA 21 rfl rfl rfl) , rfl⟩)) <| c_ (bi0 (vI (cmpZ (endS l day off i) (fS (sgi l i) (jn (untS l day i) 1 0)))) (vI 0) (h := by intro env w; simp [go_sem, cmpZ_le, cmpZ_lt, cmpZ_ge, cmpZ_gt, hW])) <| c_ (pk0 bF bT bT (h := by intro env w; simp [go_sem, cmpZ_le, cmpZ_lt, cmpZ_ge, cmpZ_gt, hW])) <| e_) (k := fun E10 ac wd h_10 => ?_)
  clear h_9
  refine then_n ?_
  refine cT_ h_10 ?_
  refine wp_seq ?_
  refine rf_ h_10 [[0]] [K_ bF] (fun E11 => [(0, .slice A0 l.length c0), (1, vI day), (2, vI off), (6, bF), (9, vN i), (10, vI (untS l day i)), (11, vP (pb E9 9) 0), (67, vN i), (68, .slice A0 l.length c0), (69, vN l.length), (70, bT), (73, .slice A0 l.length c0), (74, vI day), (75, vN i), (76, vI (untS l day i)), (77, .slice A0 l.length c0), (78, vI day), (79, vI off), (80, vN i), (81, bigF (endS l day off i) (E9 8)), (82, bigF (endS l day off i) (E9 8)), (83, .slice A0 l.length c0), (84, vN i), (85, elt (.slice A0 l.length c0) (i * 4)), (86, vSg (sgi l i)), (87, vI (untS l day i)), (88, vI ((untS l day i) - 1)), (89, vL ((untS l day i) - 1) 0 0), (90, bigF (jn ((untS l day i) - 1) 0 0) (E10 8)), (91, bigF (fS (sgi l i) (jn ((untS l day i) - 1) 0 0)) (E10 9)), (92, vI (cmpZ (endS l day off i) (fS (sgi l i) (jn ((untS l day i) - 1) 0 0)))), (93, bF), (94, bF), (95, bigF (endS l day off i) (E9 8)), (96, .slice A0 l.length c0), (97, vN i), (98, elt (.slice A0 l.length c0) (i * 4)), (99, vSg (sgi l i)), (100, vI (untS l day i)), (101, vL (untS l day i) 1 0), (102, bigF (jn (untS l day i) 1 0) (E10 20)), (103, bigF (fS (sgi l i) (jn (untS l day i) 1 0)) (E10 21)), (104, vI (cmpZ (endS l day off i) (fS (sgi l i) (jn (untS l day i) 1 0)))), (105, bT), (106, bT)]) (hs := c_ mv_ <| e_) (k := fun E11 ac wd h_11 => ?_)
  clear h_10
  refine then_n (wp_ret (blk_ret (then_ret (then_ret (blk_ret (then_ret ?_))))))
  refine lvT Try.results9 h_11 ?_
  have hres : mayS l day off = false := by (have hq : stB l day off i = false := (by simp [stB]; omega)); simp [mayS, all_no h1 hq]
  exact ⟨by rw [hres], h_11.st.below⟩
  refine rf_ h_9 [[0],[1],[2],[1,2,3],[1,2,3,4],[5],[5,6],[5,6,7],[5,6,7,8],[1,2,3,4,5,6,7,8,9],r_ 11,r_ 12,r_ 13,r_ 14,[0,1,2,3,4,5,6,7,8,9,10,11,12,14],[0,1,2,3,4,5,6,7,8,9,10,11,12,15],[0,1,2,3,4,5,6,7,8,9,10,11,12,14,15,16],[0,1,2,3,4,5,6,7,8,9,10,11,12,14,15,16,17],[0,1,2,3,4,5,6,7,8,9,10,11,12,18],[0,1,2,3,4,5,6,7,8,9,10,11,12,18,19],[0,1,2,3,4,5,6,7,8,9,10,11,12,18,19,20],[0,1,2,3,4,5,6,7,8,9,10,11,12,14,15,16,17,18,19,20,21],r_ 23,r_ 24,r_ 25] [K_ (bigF (endS l day off i) (E9 8)), K_ (.slice A0 l.length c0), K_ (vN i), K_ (elt (.slice A0 l.length c0) (i * 4)), K_ (vSg (sgi l i)), K_ (vI (untS l day i)), K_ (vI ((untS l day i) - 1)), K_ (vL ((untS l day i) - 1) 0 0), KE_ fun env => bigF (jn ((untS l day i) - 1) 0 0) (env 8), KE_ fun env => bigF (fS (sgi l i) (jn ((untS l day i) - 1) 0 0)) (env 9), K_ (vI (cmpZ (endS l day off i) (fS (sgi l i) (jn ((untS l day i) - 1) 0 0)))), K_ bF, K_ bF, K_ (bigF (endS l day off i) (E9 8)), K_ (.slice A0 l.length c0), K_ (vN i), K_ (elt (.slice A0 l.length c0) (i * 4)), K_ (vSg (sgi l i)), K_ (vI (untS l day i)), K_ (vL (untS l day i) 1 0), KE_ fun env => bigF (jn (untS l day i) 1 0) (env 20), KE_ fun env => bigF (fS (sgi l i) (jn (untS l day i) 1 0)) (env 21), K_ (vI (cmpZ (endS l day off i) (fS (sgi l i) (jn (untS l day i) 1 0)))), K_ bF, K_ bF] (fun E10 => [(0, .slice A0 l.length c0), (1, vI day), (2, vI off), (9, vN i), (10, vI (untS l day i)), (11, vP (pb E9 9) 0), (67, vN i), (68, .slice A0 l.length c0), (69, vN l.length), (70, bT), (73, .slice A0 l.length c0), (74, vI day), (75, vN i), (76, vI (untS l day i)), (77, .slice A0 l.length c0), (78, vI day), (79, vI off), (80, vN i), (81, bigF (endS l day off i) (E9 8)), (82, bigF (endS l day off i) (E9 8)), (83, .slice A0 l.length c0), (84, vN i), (85, elt (.slice A0 l.length c0) (i * 4)), (86, vSg (sgi l i)), (87, vI (untS l day i)), (88, vI ((untS l day i) - 1)), (89, vL ((untS l day i) - 1) 0 0), (90, bigF (jn ((untS l day i) - 1) 0 0) (E10 8)), (91, bigF (fS (sgi l i) (jn ((untS l day i) - 1) 0 0)) (E10 9)), (92, vI (cmpZ (endS l day off i) (fS (sgi l i) (jn ((untS l day i) - 1) 0 0)))), (93, bF), (94, bF), (95, bigF (endS l day off i) (E9 8)), (96, .slice A0 l.length c0), (97, vN i), (98, elt (.slice A0 l.length c0) (i * 4)), (99, vSg (sgi l i)), (100, vI (untS l day i)), (101, vL (untS l day i) 1 0), (102, bigF (jn (untS l day i) 1 0) (E10 20)), (103, bigF (fS (sgi l i) (jn (untS l day i) 1 0)) (E10 21)), (104, vI (cmpZ (endS l day off i) (fS (sgi l i) (jn (untS l day i) 1 0)))), (105, bF), (106, bF)]) (F := [(8, fun env w => BigN w0.heap.size w (env 8) (jn ((untS l day i) - 1) 0 0)), (9, fun env w => BigN w0.heap.size w (env 9) (fS (sgi l i) (jn ((untS l day i) - 1) 0 0))), (20, fun env w => BigN w0.heap.size w (env 20) (jn (untS l day i) 1 0)), (21, fun env w => BigN w0.heap.size w (env 21) (fS (sgi l i) (jn (untS l day i) 1 0)))]) (L1 := fun E10 => [fun w => BigN w0.heap.size w (E9 8) (endS l day off i), fun w => BigN w0.heap.size w (E10 8) (jn ((untS l day i) - 1) 0 0), fun w => BigN w0.heap.size w (E10 9) (fS (sgi l i) (jn ((untS l day i) - 1) 0 0)), fun w => BigN w0.heap.size w (E10 20) (jn (untS l day i) 1 0), fun w => BigN w0.heap.size w (E10 21) (fS (sgi l i) (jn (untS l day i) 1 0))]) (hs := c_ (ld_ 0 (hrd := by exact rd46 rfl rfl)) <| c_ mv_ <| c_ mv_ <| c_ (ia_ Try.underlying22 sz25 i (i * 4) ((i : Nat) : Int) (fun _ env _ wd hA => (hl.grown hA.j.st.gr).els) (rfl) (by omega) rfl) <| c_ (le_ (i * 4) (fun _ env _ wd hA => (hl.grown hA.j.st.gr).els) (by omega) (le25 (by exact sgC_0 l i) (by exact sgC_1 l i) (by exact sgC_2 l i) (by exact sgC_3 l i))) <| c_ mv_ <| c_ (bi0 (vI (untS l day i)) (vI 1)) <| c_ (bd0 ([vI ((untS l day i) - 1)])) <| c_ (cb_ Try.func23 (jn ((untS l day i) - 1) 0 0) (h := fun _ env _ wd hA => ⟨_, Join_any wd ((untS l day i) - 1) 0 0 (by omega) (by omega) (by omega) (by omega) (by omega) (by omega), rfl⟩)) <| c_ (cb_ Try.func29 (fS (sgi l i) (jn ((untS l day i) - 1) 0 0)) (h := fun _ env _ wd hA => ⟨_, F_any wd (sgi l i) hs _ (bA (env 8)) (bC (env 8)) (jn ((untS l day i) - 1) 0 0) rfl (At.bigN hA 8 rfl rfl rfl) (by unfold jn; omega) (by unfold jn; omega), rfl⟩)) <| c_ (cw_ Try.func28 (h := fun _ env _ wd hA => ⟨_, Cmp_any wd (decide (endS l day off i < 0)) (bA (E9 8)) (bC (E9 8)) (endS l day off i) rfl (Facts.bigN (hA.j.st.now).1 0 rfl)  (decide (fS (sgi l i) (jn ((untS l day i) - 1) 0 0) < 0)) (bA (env 9)) (bC (env 9)) (fS (sgi l i) (jn ((untS l day i) - 1) 0 0)) rfl (At.bigN hA 9 rfl rfl rfl) , rfl⟩)) <| c_ (bi0 (vI (cmpZ (endS l day off i) (fS (sgi l i) (jn ((untS l day i) - 1) 0 0)))) (vI 0) (h := by intro env w; simp [go_sem, cmpZ_le, cmpZ_lt, cmpZ_ge, cmpZ_gt, hV])) <| c_ mv_ <| c_ (ld_ 0 (hrd := by exact rd46 rfl rfl)) <| c_ (gm0 (.slice A0 l.length c0)) <| c_ (gm0 (vN i)) <| c_ (ia_ Try.underlying22 sz25 i (i * 4) ((i : Nat) : Int) (fun _ env _ wd hA => (hl.grown hA.j.st.gr).els) (rfl) (by omega) rfl) <| c_ (le_ (i * 4) (fun _ env _ wd hA => (hl.grown hA.j.st.gr).els) (by omega) (le25 (by exact sgC_0 l i) (by exact sgC_1 l i) (by exact sgC_2 l i) (by exact sgC_3 l i))) <| c_ (gm0 (vI (untS l day i))) <| c_ (bd0 ([vI (untS l day i), vI 1])) <| c_ (cb_ Try.func23 (jn (untS l day i) 1 0) (h := fun _ env _ wd hA => ⟨_, Join_any wd (untS l day i) 1 0 (by omega) (by omega) (by omega) (by omega) (by omega) (by omega), rfl⟩)) <| c_ (cb_ Try.func29 (fS (sgi l i) (jn (untS l day i) 1 0)) (h := fun _ env _ wd hA => ⟨_, F_any wd (sgi l i) hs _ (bA (env 20)) (bC (env 20)) (jn (untS l day i) 1 0) rfl (At.bigN hA 20 rfl rfl rfl) (by unfold jn; omega) (by unfold jn; omega), rfl⟩)) <| c_ (cw_ Try.func28 (h := fun _ env _ wd hA => ⟨_, Cmp_any wd (decide (endS l day off i < 0)) (bA (E9 8)) (bC (E9 8)) (endS l day off i) rfl (Facts.bigN (hA.j.st.now).1 0 rfl)  (decide (fS (sgi l i) (jn (untS l day i) 1 0) < 0)) (bA (env 21)) (bC (env 21)) (fS (sgi l i) (jn (untS l day i) 1 0)) rfl (At.bigN hA 21 rfl rfl rfl) , rfl⟩)) <| c_ (bi0 (vI (cmpZ (endS l day off i) (fS (sgi l i) (jn (untS l day i) 1 0)))) (vI 0) (h := by intro env w; simp [go_sem, cmpZ_le, cmpZ_lt, cmpZ_ge, cmpZ_gt, hW])) <| c_ (pk0 bF bT bF (h := by intro env w; simp [go_sem, cmpZ_le, cmpZ_lt, cmpZ_ge, cmpZ_gt, hW])) <| e_) (k := fun E10 ac wd h_10 => ?_)
  clear h_9
  refine then_n ?_
  refine cF_ h_10 ?_
  refine wp_skip (blk_n (then_n ?_))
  refine rf_ h_10 (tri 3) [K_ (vN i), K_ (vI (((i : Nat) : Int) + 1)), K_ (vI (((i : Nat) : Int) + 1))] (fun E11 => [(0, .slice A0 l.length c0), (1, vI day), (2, vI off), (9, vI (((i : Nat) : Int) + 1)), (10, vI (untS l day i)), (11, vP (pb E9 9) 0), (67, vN i), (68, .slice A0 l.length c0), (69, vN l.length), (70, bT), (71, vN i), (72, vI (((i : Nat) : Int) + 1)), (73, .slice A0 l.length c0), (74, vI day), (75, vN i), (76, vI (untS l day i)), (77, .slice A0 l.length c0), (78, vI day), (79, vI off), (80, vN i), (81, bigF (endS l day off i) (E9 8)), (82, bigF (endS l day off i) (E9 8)), (83, .slice A0 l.length c0), (84, vN i), (85, elt (.slice A0 l.length c0) (i * 4)), (86, vSg (sgi l i)), (87, vI (untS l day i)), (88, vI ((untS l day i) - 1)), (89, vL ((untS l day i) - 1) 0 0), (90, bigF (jn ((untS l day i) - 1) 0 0) (E10 8)), (91, bigF (fS (sgi l i) (jn ((untS l day i) - 1) 0 0)) (E10 9)), (92, vI (cmpZ (endS l day off i) (fS (sgi l i) (jn ((untS l day i) - 1) 0 0)))), (93, bF), (94, bF), (95, bigF (endS l day off i) (E9 8)), (96, .slice A0 l.length c0), (97, vN i), (98, elt (.slice A0 l.length c0) (i * 4)), (99, vSg (sgi l i)), (100, vI (untS l day i)), (101, vL (untS l day i) 1 0), (102, bigF (jn (untS l day i) 1 0) (E10 20)), (103, bigF (fS (sgi l i) (jn (untS l day i) 1 0)) (E10 21)), (104, vI (cmpZ (endS l day off i) (fS (sgi l i) (jn (untS l day i) 1 0)))), (105, bF), (106, bF)]) (hs := c_ mv_ <| c_ (bi0 (vN i) (vI 1)) <| c_ mv_ <| e_) (k := fun E11 ac wd h_11 => ?_)
  clear h_10
  refine then_n ?_
  have hq : stB l day off i = true := by simp [stB]; omega
  exact ⟨⟨i + 1, ⟨by omega, steps_snoc (p := fun j => stB l day off j = true) hi4 hq⟩, ((h_11.take (M1 := []) rfl).sel [] rfl).re rfl⟩, by rw [sI_eq (h_11.g (t := 9) rfl), hmu]; omega⟩
  obtain rfl : i = l.length := by omega
  refine rf_ h_7 [[0],[1],[1,2],r_ 4] [K_ (vN l.length), K_ (.slice A0 l.length c0), K_ (vN l.length), K_ bF] (fun E8 => [(0, .slice A0 l.length c0), (1, vI day), (2, vI off), (9, vN l.length), (67, vN l.length), (68, .slice A0 l.length c0), (69, vN l.length), (70, bF)]) (hs := c_ mv_ <| c_ mv_ <| c_ (ln_ Try.underlying22 fun _ env _ wd hA => (hl.grown hA.j.st.gr).els) <| c_ (bi0 (vN l.length) (vN l.length)) <| e_) (k := fun E8 ac wd h_8 => ?_)
  clear h_7
  refine then_n ?_
  refine cF_ h_8 ?_
  refine wp_exit (then_e (then_e (blk_x (then_n (wp_seq ?_)))))
  refine rf_ h_8 [[0]] [K_ bT] (fun E9 => [(6, bT)]) (hs := c_ mv_ <| e_) (k := fun E9 ac wd h_9 => ?_)
  clear h_8
  refine then_n (wp_ret ?_)
  refine lvT Try.results9 h_9 ?_
  have hres : mayS l day off = true := by simp [mayS, hsz, all_yes hi4]
  exact ⟨by rw [hres], h_9.st.below⟩
theorem pow2_le {a b : Nat} (h : a ≤ b) : (2 : Int) ^ a ≤ 2 ^ b := by
  have := Nat.pow_le_pow_right (n := 2) (by omega) h
  exact_mod_cast this
end Go.Proofs.Ytdfkghpgekmmlaa
/- epactref14: Tai, Label (printed by my walk.py) -/
namespace Go.Proofs.Ytdfkghpgekmmlaa
open Go.RowKit
set_option linter.unusedVariables false
set_option linter.unusedSimpArgs false
attribute [local go_sem] vN bT bF rS vSg vW vM vL vT2 vT3 vP vI execOp Act.eval evC bigF vB hi_zero lo_zero Try.underlying36 Try.underlying46

theorem BigN.nil {B : Nat} {w : World} {z : Int} (h : z = 0) : BigN B w (.agg #[.bool false, .slice none 0 0]) z := by
  subst h
  exact ⟨none, 0, by simp [vB, digs_zero], by rw [digs_zero]; exact ⟨⟨none, 0, rfl, Nat.le_refl _, by simp, .inl rfl⟩, fun b h => by cases h⟩⟩
theorem begS_bd {l : List Sg} {day off : Int} (h : LOk l day off) {i : Nat} (hi : i < l.length) : -100000000000000000000000000000 ≤ begS l i ∧ begS l i ≤ 100000000000000000000000000000 := by
  have hs := h.seg i hi
  have h0 := hs.d0; have h1 := hs.d1
  have h2 : Cn (jn (sgi l i).d 0 0) := cn_jn (by omega) (by omega) (by omega) (by omega) (by omega) (by omega)
  have h3 := fS_bd hs h2
  unfold begS
  unfold jn at *; omega
theorem lab_early {l : List Sg} {day off t : Int} (h : t < begS l 0) : labE l day off t = 8 ∧ labD l day off t = 0 ∧ labS l day off t = 0 ∧ labA l day off t = 0 := by
  have e : labE l day off t = 8 := by unfold labE; rw [if_pos h]
  unfold labD labS labA
  rw [e]
  exact ⟨rfl, rfl, rfl, rfl⟩
theorem lab_late {l : List Sg} {day off t : Int} (h : ¬ t < begS l 0) (h2 : ∀ j, j < l.length → endS l day off j ≤ t) : labE l day off t = 9 ∧ labD l day off t = 0 ∧ labS l day off t = 0 ∧ labA l day off t = 0 := by
  have e0 : iS l day off t = l.length := fst1_none (fun j hj => decide_eq_false (by have := h2 j hj; omega))
  have e : labE l day off t = 9 := by unfold labE; rw [if_neg h, e0, if_neg (by omega)]
  unfold labD labS labA
  rw [e]
  exact ⟨rfl, rfl, rfl, rfl⟩
theorem lab_in {l : List Sg} {day off t : Int} {i : Nat} (h : ¬ t < begS l 0) (hi : i < l.length) (h2 : ∀ j, j < i → endS l day off j ≤ t) (h3 : t < endS l day off i) : labE l day off t = 0 ∧ labD l day off t = lblD (untS l day i) (gS (sgi l i) t) ∧ labS l day off t = lblS (untS l day i) (gS (sgi l i) t) ∧ labA l day off t = splA (gS (sgi l i) t) := by
  have e0 : iS l day off t = i := fst1_eq hi (fun j hj => decide_eq_false (by have := h2 j hj; omega)) (decide_eq_true h3)
  have e : labE l day off t = 0 := by unfold labE; rw [if_neg h, e0, if_pos hi]
  unfold labD labS labA labU
  rw [if_pos e, if_pos e, if_pos e, e0]
  exact ⟨e, rfl, rfl, rfl⟩

set_option maxRecDepth 100000 in
set_option maxHeartbeats 8000000 in
theorem rTai_any (w0 : World) (A0 : Option Addr) (c0 : Nat) (l : List Sg) (hl : SegU w0 (.slice A0 l.length c0) l) (day off : Int) (hL : LOk l day off) (d s a : Int) (hd0 : -9223372036854775808 ≤ d) (hd1 : d < 9223372036854775808) (hs0 : -9223372036854775808 ≤ s) (hs1 : s < 9223372036854775808) (ha0 : -9223372036854775808 ≤ a) (ha1 : a < 9223372036854775808) : Calls Try.prog 12 #[.slice A0 l.length c0, vI day, vI off, vL d s a] w0 fun e w' => ∃ v, e = .returned (.tuple #[v, vI (taiE l day off d s a)]) ∧ Below w0.heap.size w0 w' ∧ BigN w0.heap.size w' v (taiV l day off d s a) := by
  have n0 := hL.n0; have n1 := hL.n1; have y0 := hL.y0; have y1 := hL.y1; have o0 := hL.o0; have o1 := hL.o1
  have hst := St.start w0 (Θ := fun _ => True) (fun _ _ => trivial)
  refine en_ Try.func12 hst 92 [(0, .slice A0 l.length c0), (1, vI day), (2, vI off), (3, vL d s a)] (fun ac h => ?_)
  replace h := h.facts
  refine wp_seq ?_
  refine rf_ h [[0],[1],[2]] [KE_ fun env => vP (pb env 0) 0, KE_ fun env => vP (pb env 1) 0, K_ (vI 0)] (fun E1 => [(0, .slice A0 l.length c0), (1, vI day), (2, vI off), (7, vP (pb E1 0) 0), (8, vP (pb E1 1) 0), (9, vI 0)]) (W := [{ i := 0, T := 36, c0 := [vI d, vI s, vI a] }, { i := 1, T := 46, c0 := [bF, .slice none 0 0] }]) (M' := fun E1 => [((pb E1 0), 36, [vI d, vI s, vI a]), ((pb E1 1), 46, [bF, .slice none 0 0])]) (hs := c_ (bx0 0 (vL d s a)) <| c_ (al_ 1) <| c_ mv_ <| e_) (k := fun E1 ac wd h_1 => ?_)
  clear h
  refine then_n (wp_seq (wp_seq ?_))
  by_cases h0 : s < 0
  refine rf_ h_1 (tri 18) [K_ (vP (pb E1 0) 1), K_ (vI s), K_ bT, K_ bT, K_ undef, K_ undef, K_ undef, K_ bT, K_ bT, K_ undef, K_ undef, K_ undef, K_ bT, K_ bT, K_ undef, K_ undef, K_ undef, K_ bT] (fun E2 => [(0, .slice A0 l.length c0), (1, vI day), (2, vI off), (7, vP (pb E1 0) 0), (8, vP (pb E1 1) 0), (9, vI 0), (30, bT)]) (hs := c_ (fa0 (vP (pb E1 0) 0)) <| c_ (ld_ 0 (hrd := by exact rd3 rfl)) <| c_ (bi0 (vI s) (vI 0)) <| c_ mv_ <| c_ off_ <| c_ off_ <| c_ off_ <| c_ (pk0 bT bT undef) <| c_ mv_ <| c_ off_ <| c_ off_ <| c_ off_ <| c_ (pk0 bT bT undef) <| c_ mv_ <| c_ off_ <| c_ off_ <| c_ off_ <| c_ (pk0 bT bT undef) <| e_) (k := fun E2 ac wd h_2 => ?_)
  clear h_1
  refine then_n ?_
  refine cT_ h_2 ?_
  refine wp_seq ?_
  refine rf_ h_2 (tri 3) [K_ (.agg #[bF, .slice none 0 0]), none, K_ (vI 1)] (fun E3 => [(0, .slice A0 l.length c0), (1, vI day), (2, vI off), (7, vP (pb E1 0) 0), (8, vP (pb E1 1) 0), (9, vI 1)]) (S := [⟨1, 1, fun _ => [bF, .slice none 0 0]⟩]) (M' := fun E3 => [((pb E1 0), 36, [vI d, vI s, vI a]), ((pb E1 1), 46, [bF, .slice none 0 0])]) (hs := c_ (bd0 ([])) <| c_ (se_ 1 (hst := by exact fun _ _ _ hc => st46 rfl rfl rfl hc)) <| c_ mv_ <| e_) (k := fun E3 ac wd h_3 => ?_)
  clear h_2
  refine then_n (wp_ret (then_ret ?_))
  refine lvCT (v := .agg #[.bool false, .slice none 0 0]) Try.results12 h_3 1 (rd46 rfl rfl) ?_
  have hE2 : taiE l day off d s a = 1 := by have hfb : formB s a = false := (by have : ¬ formB s a = true := (by simp only [formB, Bool.and_eq_true, wthn_iff]; omega); simpa using this); unfold taiE; rw [if_pos hfb]
  have hV2 : taiV l day off d s a = 0 := by unfold taiV; rw [if_neg (by rw [hE2]; omega)]
  exact ⟨.agg #[.bool false, .slice none 0 0], by rw [hE2], h_3.st.below, BigN.nil hV2⟩
  by_cases h1 : 86400 < s
  refine rf_ h_1 (tri 18) [K_ (vP (pb E1 0) 1), K_ (vI s), K_ bF, K_ bF, K_ (vP (pb E1 0) 1), K_ (vI s), K_ bT, K_ bT, K_ bT, K_ undef, K_ undef, K_ undef, K_ bT, K_ bT, K_ undef, K_ undef, K_ undef, K_ bT] (fun E2 => [(0, .slice A0 l.length c0), (1, vI day), (2, vI off), (7, vP (pb E1 0) 0), (8, vP (pb E1 1) 0), (9, vI 0), (30, bT)]) (hs := c_ (fa0 (vP (pb E1 0) 0)) <| c_ (ld_ 0 (hrd := by exact rd3 rfl)) <| c_ (bi0 (vI s) (vI 0)) <| c_ mv_ <| c_ (fa0 (vP (pb E1 0) 0)) <| c_ (ld_ 0 (hrd := by exact rd3 rfl)) <| c_ (bi0 (vI s) (vI 86400)) <| c_ (pk0 bF bT bT) <| c_ mv_ <| c_ off_ <| c_ off_ <| c_ off_ <| c_ (pk0 bT bT undef) <| c_ mv_ <| c_ off_ <| c_ off_ <| c_ off_ <| c_ (pk0 bT bT undef) <| e_) (k := fun E2 ac wd h_2 => ?_)
  clear h_1
  refine then_n ?_
  refine cT_ h_2 ?_
  refine wp_seq ?_
  refine rf_ h_2 (tri 3) [K_ (.agg #[bF, .slice none 0 0]), none, K_ (vI 1)] (fun E3 => [(0, .slice A0 l.length c0), (1, vI day), (2, vI off), (7, vP (pb E1 0) 0), (8, vP (pb E1 1) 0), (9, vI 1)]) (S := [⟨1, 1, fun _ => [bF, .slice none 0 0]⟩]) (M' := fun E3 => [((pb E1 0), 36, [vI d, vI s, vI a]), ((pb E1 1), 46, [bF, .slice none 0 0])]) (hs := c_ (bd0 ([])) <| c_ (se_ 1 (hst := by exact fun _ _ _ hc => st46 rfl rfl rfl hc)) <| c_ mv_ <| e_) (k := fun E3 ac wd h_3 => ?_)
  clear h_2
  refine then_n (wp_ret (then_ret ?_))
  refine lvCT (v := .agg #[.bool false, .slice none 0 0]) Try.results12 h_3 1 (rd46 rfl rfl) ?_
  have hE2 : taiE l day off d s a = 1 := by have hfb : formB s a = false := (by have : ¬ formB s a = true := (by simp only [formB, Bool.and_eq_true, wthn_iff]; omega); simpa using this); unfold taiE; rw [if_pos hfb]
  have hV2 : taiV l day off d s a = 0 := by unfold taiV; rw [if_neg (by rw [hE2]; omega)]
  exact ⟨.agg #[.bool false, .slice none 0 0], by rw [hE2], h_3.st.below, BigN.nil hV2⟩
  by_cases h2 : a < 0
  refine rf_ h_1 (tri 18) [K_ (vP (pb E1 0) 1), K_ (vI s), K_ bF, K_ bF, K_ (vP (pb E1 0) 1), K_ (vI s), K_ bF, K_ bF, K_ bF, K_ (vP (pb E1 0) 2), K_ (vI a), K_ bT, K_ bT, K_ bT, K_ undef, K_ undef, K_ undef, K_ bT] (fun E2 => [(0, .slice A0 l.length c0), (1, vI day), (2, vI off), (7, vP (pb E1 0) 0), (8, vP (pb E1 1) 0), (9, vI 0), (30, bT)]) (hs := c_ (fa0 (vP (pb E1 0) 0)) <| c_ (ld_ 0 (hrd := by exact rd3 rfl)) <| c_ (bi0 (vI s) (vI 0)) <| c_ mv_ <| c_ (fa0 (vP (pb E1 0) 0)) <| c_ (ld_ 0 (hrd := by exact rd3 rfl)) <| c_ (bi0 (vI s) (vI 86400)) <| c_ (pk0 bF bT bF) <| c_ mv_ <| c_ (fa0 (vP (pb E1 0) 0)) <| c_ (ld_ 0 (hrd := by exact rd3 rfl)) <| c_ (bi0 (vI a) (vI 0)) <| c_ (pk0 bF bT bT) <| c_ mv_ <| c_ off_ <| c_ off_ <| c_ off_ <| c_ (pk0 bT bT undef) <| e_) (k := fun E2 ac wd h_2 => ?_)
  clear h_1
  refine then_n ?_
  refine cT_ h_2 ?_
  refine wp_seq ?_
  refine rf_ h_2 (tri 3) [K_ (.agg #[bF, .slice none 0 0]), none, K_ (vI 1)] (fun E3 => [(0, .slice A0 l.length c0), (1, vI day), (2, vI off), (7, vP (pb E1 0) 0), (8, vP (pb E1 1) 0), (9, vI 1)]) (S := [⟨1, 1, fun _ => [bF, .slice none 0 0]⟩]) (M' := fun E3 => [((pb E1 0), 36, [vI d, vI s, vI a]), ((pb E1 1), 46, [bF, .slice none 0 0])]) (hs := c_ (bd0 ([])) <| c_ (se_ 1 (hst := by exact fun _ _ _ hc => st46 rfl rfl rfl hc)) <| c_ mv_ <| e_) (k := fun E3 ac wd h_3 => ?_)
  clear h_2
  refine then_n (wp_ret (then_ret ?_))
  refine lvCT (v := .agg #[.bool false, .slice none 0 0]) Try.results12 h_3 1 (rd46 rfl rfl) ?_
  have hE2 : taiE l day off d s a = 1 := by have hfb : formB s a = false := (by have : ¬ formB s a = true := (by simp only [formB, Bool.and_eq_true, wthn_iff]; omega); simpa using this); unfold taiE; rw [if_pos hfb]
  have hV2 : taiV l day off d s a = 0 := by unfold taiV; rw [if_neg (by rw [hE2]; omega)]
  exact ⟨.agg #[.bool false, .slice none 0 0], by rw [hE2], h_3.st.below, BigN.nil hV2⟩
  by_cases h3 : 1000000000000000000 ≤ a
  refine rf_ h_1 (tri 18) [K_ (vP (pb E1 0) 1), K_ (vI s), K_ bF, K_ bF, K_ (vP (pb E1 0) 1), K_ (vI s), K_ bF, K_ bF, K_ bF, K_ (vP (pb E1 0) 2), K_ (vI a), K_ bF, K_ bF, K_ bF, K_ (vP (pb E1 0) 2), K_ (vI a), K_ bT, K_ bT] (fun E2 => [(0, .slice A0 l.length c0), (1, vI day), (2, vI off), (7, vP (pb E1 0) 0), (8, vP (pb E1 1) 0), (9, vI 0), (30, bT)]) (hs := c_ (fa0 (vP (pb E1 0) 0)) <| c_ (ld_ 0 (hrd := by exact rd3 rfl)) <| c_ (bi0 (vI s) (vI 0)) <| c_ mv_ <| c_ (fa0 (vP (pb E1 0) 0)) <| c_ (ld_ 0 (hrd := by exact rd3 rfl)) <| c_ (bi0 (vI s) (vI 86400)) <| c_ (pk0 bF bT bF) <| c_ mv_ <| c_ (fa0 (vP (pb E1 0) 0)) <| c_ (ld_ 0 (hrd := by exact rd3 rfl)) <| c_ (bi0 (vI a) (vI 0)) <| c_ (pk0 bF bT bF) <| c_ mv_ <| c_ (fa0 (vP (pb E1 0) 0)) <| c_ (ld_ 0 (hrd := by exact rd3 rfl)) <| c_ (bi0 (vI a) (vI 1000000000000000000)) <| c_ (pk0 bF bT bT) <| e_) (k := fun E2 ac wd h_2 => ?_)
  clear h_1
  refine then_n ?_
  refine cT_ h_2 ?_
  refine wp_seq ?_
  refine rf_ h_2 (tri 3) [K_ (.agg #[bF, .slice none 0 0]), none, K_ (vI 1)] (fun E3 => [(0, .slice A0 l.length c0), (1, vI day), (2, vI off), (7, vP (pb E1 0) 0), (8, vP (pb E1 1) 0), (9, vI 1)]) (S := [⟨1, 1, fun _ => [bF, .slice none 0 0]⟩]) (M' := fun E3 => [((pb E1 0), 36, [vI d, vI s, vI a]), ((pb E1 1), 46, [bF, .slice none 0 0])]) (hs := c_ (bd0 ([])) <| c_ (se_ 1 (hst := by exact fun _ _ _ hc => st46 rfl rfl rfl hc)) <| c_ mv_ <| e_) (k := fun E3 ac wd h_3 => ?_)
  clear h_2
  refine then_n (wp_ret (then_ret ?_))
  refine lvCT (v := .agg #[.bool false, .slice none 0 0]) Try.results12 h_3 1 (rd46 rfl rfl) ?_
  have hE2 : taiE l day off d s a = 1 := by have hfb : formB s a = false := (by have : ¬ formB s a = true := (by simp only [formB, Bool.and_eq_true, wthn_iff]; omega); simpa using this); unfold taiE; rw [if_pos hfb]
  have hV2 : taiV l day off d s a = 0 := by unfold taiV; rw [if_neg (by rw [hE2]; omega)]
  exact ⟨.agg #[.bool false, .slice none 0 0], by rw [hE2], h_3.st.below, BigN.nil hV2⟩
  refine rf_ h_1 (tri 18) [K_ (vP (pb E1 0) 1), K_ (vI s), K_ bF, K_ bF, K_ (vP (pb E1 0) 1), K_ (vI s), K_ bF, K_ bF, K_ bF, K_ (vP (pb E1 0) 2), K_ (vI a), K_ bF, K_ bF, K_ bF, K_ (vP (pb E1 0) 2), K_ (vI a), K_ bF, K_ bF] (fun E2 => [(0, .slice A0 l.length c0), (1, vI day), (2, vI off), (7, vP (pb E1 0) 0), (8, vP (pb E1 1) 0), (9, vI 0), (30, bF)]) (hs := c_ (fa0 (vP (pb E1 0) 0)) <| c_ (ld_ 0 (hrd := by exact rd3 rfl)) <| c_ (bi0 (vI s) (vI 0)) <| c_ mv_ <| c_ (fa0 (vP (pb E1 0) 0)) <| c_ (ld_ 0 (hrd := by exact rd3 rfl)) <| c_ (bi0 (vI s) (vI 86400)) <| c_ (pk0 bF bT bF) <| c_ mv_ <| c_ (fa0 (vP (pb E1 0) 0)) <| c_ (ld_ 0 (hrd := by exact rd3 rfl)) <| c_ (bi0 (vI a) (vI 0)) <| c_ (pk0 bF bT bF) <| c_ mv_ <| c_ (fa0 (vP (pb E1 0) 0)) <| c_ (ld_ 0 (hrd := by exact rd3 rfl)) <| c_ (bi0 (vI a) (vI 1000000000000000000)) <| c_ (pk0 bF bT bF) <| e_) (k := fun E2 ac wd h_2 => ?_)
  clear h_1
  refine then_n ?_
  refine cF_ h_2 ?_
  refine wp_skip (then_n (wp_seq (wp_seq ?_)))
  have hfb : formB s a = true := by simp only [formB, Bool.and_eq_true, wthn_iff]; omega
  by_cases g1 : d < (sgi l 0).d
  refine rf_ h_2 [[0],[0,1],[2],[2,3],[2,3,4],[2,3,4,5],r_ 7] [K_ (vP (pb E1 0) 0), K_ (vI d), K_ (.slice A0 l.length c0), K_ (elt (.slice A0 l.length c0) (0 * 4)), K_ (elt (.slice A0 l.length c0) (0 * 4)), K_ (vI ((sgi l 0).d)), K_ bT] (fun E3 => [(0, .slice A0 l.length c0), (1, vI day), (2, vI off), (7, vP (pb E1 0) 0), (8, vP (pb E1 1) 0), (9, vI 0), (38, bT)]) (hs := c_ (fa0 (vP (pb E1 0) 0)) <| c_ (ld_ 0 (hrd := by exact rd3 rfl)) <| c_ mv_ <| c_ (ia_ Try.underlying22 sz25 0 (0 * 4) 0 (fun _ env _ wd hA => (hl.grown hA.j.st.gr).els) (rfl) (by omega) rfl) <| c_ (s_fa rfl rfl rfl (fun _ => wanted_none rfl _) (0 * 4) 0 (0 * 4) rfl (s := fun _ => .slice A0 l.length c0) rfl (fun _ => rfl) (fun {D env ac wd} hA => (hl.grown hA.j.st.gr).els) (by omega) (fun b q w => by simp [go_sem, Try.underlying25])) <| c_ (le_ (0 * 4) (fun _ env _ wd hA => (hl.grown hA.j.st.gr).els) (by omega) (le3 (by exact sgC_0 l 0))) <| c_ (bi0 (vI d) (vI ((sgi l 0).d))) <| e_) (k := fun E3 ac wd h_3 => ?_)
  clear h_2
  refine then_n ?_
  refine cT_ h_3 ?_
  refine wp_seq ?_
  refine rf_ h_3 (tri 3) [K_ (.agg #[bF, .slice none 0 0]), none, K_ (vI 8)] (fun E4 => [(0, .slice A0 l.length c0), (1, vI day), (2, vI off), (7, vP (pb E1 0) 0), (8, vP (pb E1 1) 0), (9, vI 8)]) (S := [⟨1, 1, fun _ => [bF, .slice none 0 0]⟩]) (M' := fun E4 => [((pb E1 0), 36, [vI d, vI s, vI a]), ((pb E1 1), 46, [bF, .slice none 0 0])]) (hs := c_ (bd0 ([])) <| c_ (se_ 1 (hst := by exact fun _ _ _ hc => st46 rfl rfl rfl hc)) <| c_ mv_ <| e_) (k := fun E4 ac wd h_4 => ?_)
  clear h_3
  refine then_n (wp_ret (then_ret ?_))
  refine lvCT (v := .agg #[.bool false, .slice none 0 0]) Try.results12 h_4 1 (rd46 rfl rfl) ?_
  have hE2 : taiE l day off d s a = 8 := by unfold taiE; rw [if_neg (by rw [hfb]; simp), if_pos g1]
  have hV2 : taiV l day off d s a = 0 := by unfold taiV; rw [if_neg (by rw [hE2]; omega)]
  exact ⟨.agg #[.bool false, .slice none 0 0], by rw [hE2], h_4.st.below, BigN.nil hV2⟩
  refine rf_ h_2 [[0],[0,1],[2],[2,3],[2,3,4],[2,3,4,5],r_ 7] [K_ (vP (pb E1 0) 0), K_ (vI d), K_ (.slice A0 l.length c0), K_ (elt (.slice A0 l.length c0) (0 * 4)), K_ (elt (.slice A0 l.length c0) (0 * 4)), K_ (vI ((sgi l 0).d)), K_ bF] (fun E3 => [(0, .slice A0 l.length c0), (1, vI day), (2, vI off), (7, vP (pb E1 0) 0), (8, vP (pb E1 1) 0), (9, vI 0), (38, bF)]) (hs := c_ (fa0 (vP (pb E1 0) 0)) <| c_ (ld_ 0 (hrd := by exact rd3 rfl)) <| c_ mv_ <| c_ (ia_ Try.underlying22 sz25 0 (0 * 4) 0 (fun _ env _ wd hA => (hl.grown hA.j.st.gr).els) (rfl) (by omega) rfl) <| c_ (s_fa rfl rfl rfl (fun _ => wanted_none rfl _) (0 * 4) 0 (0 * 4) rfl (s := fun _ => .slice A0 l.length c0) rfl (fun _ => rfl) (fun {D env ac wd} hA => (hl.grown hA.j.st.gr).els) (by omega) (fun b q w => by simp [go_sem, Try.underlying25])) <| c_ (le_ (0 * 4) (fun _ env _ wd hA => (hl.grown hA.j.st.gr).els) (by omega) (le3 (by exact sgC_0 l 0))) <| c_ (bi0 (vI d) (vI ((sgi l 0).d))) <| e_) (k := fun E3 ac wd h_3 => ?_)
  clear h_2
  refine then_n ?_
  refine cF_ h_3 ?_
  refine wp_skip (then_n (wp_seq (wp_seq ?_)))
  by_cases g2 : day ≤ d
  refine rf_ h_3 [[0],[0,1],[2],r_ 4] [K_ (vP (pb E1 0) 0), K_ (vI d), K_ (vI day), K_ bT] (fun E4 => [(0, .slice A0 l.length c0), (1, vI day), (2, vI off), (7, vP (pb E1 0) 0), (8, vP (pb E1 1) 0), (9, vI 0), (43, bT)]) (hs := c_ (fa0 (vP (pb E1 0) 0)) <| c_ (ld_ 0 (hrd := by exact rd3 rfl)) <| c_ mv_ <| c_ (bi0 (vI d) (vI day)) <| e_) (k := fun E4 ac wd h_4 => ?_)
  clear h_3
  refine then_n ?_
  refine cT_ h_4 ?_
  refine wp_seq ?_
  refine rf_ h_4 (tri 3) [K_ (.agg #[bF, .slice none 0 0]), none, K_ (vI 9)] (fun E5 => [(0, .slice A0 l.length c0), (1, vI day), (2, vI off), (7, vP (pb E1 0) 0), (8, vP (pb E1 1) 0), (9, vI 9)]) (S := [⟨1, 1, fun _ => [bF, .slice none 0 0]⟩]) (M' := fun E5 => [((pb E1 0), 36, [vI d, vI s, vI a]), ((pb E1 1), 46, [bF, .slice none 0 0])]) (hs := c_ (bd0 ([])) <| c_ (se_ 1 (hst := by exact fun _ _ _ hc => st46 rfl rfl rfl hc)) <| c_ mv_ <| e_) (k := fun E5 ac wd h_5 => ?_)
  clear h_4
  refine then_n (wp_ret (then_ret ?_))
  refine lvCT (v := .agg #[.bool false, .slice none 0 0]) Try.results12 h_5 1 (rd46 rfl rfl) ?_
  have hE2 : taiE l day off d s a = 9 := by unfold taiE; rw [if_neg (by rw [hfb]; simp), if_neg g1, if_pos g2]
  have hV2 : taiV l day off d s a = 0 := by unfold taiV; rw [if_neg (by rw [hE2]; omega)]
  exact ⟨.agg #[.bool false, .slice none 0 0], by rw [hE2], h_5.st.below, BigN.nil hV2⟩
  refine rf_ h_3 [[0],[0,1],[2],r_ 4] [K_ (vP (pb E1 0) 0), K_ (vI d), K_ (vI day), K_ bF] (fun E4 => [(0, .slice A0 l.length c0), (1, vI day), (2, vI off), (7, vP (pb E1 0) 0), (8, vP (pb E1 1) 0), (9, vI 0), (43, bF)]) (hs := c_ (fa0 (vP (pb E1 0) 0)) <| c_ (ld_ 0 (hrd := by exact rd3 rfl)) <| c_ mv_ <| c_ (bi0 (vI d) (vI day)) <| e_) (k := fun E4 ac wd h_4 => ?_)
  clear h_3
  refine then_n ?_
  refine cF_ h_4 ?_
  refine wp_skip (then_n (wp_seq ?_))
  refine rf_ h_4 [[0]] [K_ (vI 0)] (fun E5 => [(0, .slice A0 l.length c0), (1, vI day), (2, vI off), (7, vP (pb E1 0) 0), (8, vP (pb E1 1) 0), (9, vI 0), (10, vI 0)]) (hs := c_ mv_ <| e_) (k := fun E5 ac wd h_5 => ?_)
  clear h_4
  refine then_n (wp_seq (wp_seq ?_))
  refine rf_ h_5 [[0]] [K_ (vI 0)] (fun E6 => [(0, .slice A0 l.length c0), (1, vI day), (2, vI off), (7, vP (pb E1 0) 0), (8, vP (pb E1 1) 0), (9, vI 0), (10, vI 0), (11, vI 0)]) (hs := c_ mv_ <| e_) (k := fun E6 ac wd h_6 => ?_)
  clear h_5
  refine then_n (wp_block ?_)
  refine wp_loop (fun ac wd => ∃ i : Nat, i ≤ l.length ∧ Cur 92 w0 none none (Facts []) (fun _ => True) [(0, .slice A0 l.length c0), (1, vI day), (2, vI off), (7, vP (pb E1 0) 0), (8, vP (pb E1 1) 0), (9, vI 0), (10, vN (kS l d i)), (11, vN i)] [((pb E1 0), 36, [vI d, vI s, vI a]), ((pb E1 1), 46, [bF, .slice none 0 0])] ac wd) (fun ac _ => ((l.length : Int) - sI ac 11).toNat) ⟨0, by omega, (h_6.re rfl).th (fun _ h => h)⟩ ?_
  rintro ac wd ⟨i, hi1, h_7⟩
  clear h_6
  have hmu : sI ac 11 = ((i : Nat) : Int) := sI_eq (h_7.g (t := 11) rfl)
  refine wp_seq (wp_seq ?_)
  by_cases h1 : i < l.length
  refine rf_ h_7 [[0],[1],[1,2],r_ 4] [K_ (vN i), K_ (.slice A0 l.length c0), K_ (vN l.length), K_ bT] (fun E8 => [(0, .slice A0 l.length c0), (1, vI day), (2, vI off), (7, vP (pb E1 0) 0), (8, vP (pb E1 1) 0), (9, vI 0), (10, vN (kS l d i)), (11, vN i), (45, vN i), (46, .slice A0 l.length c0), (47, vN l.length), (48, bT)]) (hs := c_ mv_ <| c_ mv_ <| c_ (ln_ Try.underlying22 fun _ env _ wd hA => (hl.grown hA.j.st.gr).els) <| c_ (bi0 (vN i) (vN l.length)) <| e_) (k := fun E8 ac wd h_8 => ?_)
  clear h_7
  refine then_n ?_
  refine cT_ h_8 ?_
  refine wp_skip (then_n (wp_seq (wp_block (wp_seq ?_))))
  by_cases hc : (sgi l i).d ≤ d
  refine rf_ h_8 [[0],[1],[0,1,2],r_ 4,r_ 5,[5],[5,6],r_ 8] [K_ (.slice A0 l.length c0), K_ (vN i), K_ (elt (.slice A0 l.length c0) (i * 4)), K_ (elt (.slice A0 l.length c0) (i * 4)), K_ (vI ((sgi l i).d)), K_ (vP (pb E1 0) 0), K_ (vI d), K_ bT] (fun E9 => [(0, .slice A0 l.length c0), (1, vI day), (2, vI off), (7, vP (pb E1 0) 0), (8, vP (pb E1 1) 0), (9, vI 0), (10, vN (kS l d i)), (11, vN i), (45, vN i), (46, .slice A0 l.length c0), (47, vN l.length), (48, bT), (51, .slice A0 l.length c0), (52, vN i), (53, elt (.slice A0 l.length c0) (i * 4)), (54, elt (.slice A0 l.length c0) (i * 4)), (55, vI ((sgi l i).d)), (56, vP (pb E1 0) 0), (57, vI d), (58, bT)]) (hs := c_ mv_ <| c_ mv_ <| c_ (ia_ Try.underlying22 sz25 i (i * 4) ((i : Nat) : Int) (fun _ env _ wd hA => (hl.grown hA.j.st.gr).els) (rfl) (by omega) rfl) <| c_ (s_fa rfl rfl rfl (fun _ => wanted_none rfl _) (i * 4) 0 (i * 4) rfl (s := fun _ => .slice A0 l.length c0) rfl (fun _ => rfl) (fun {D env ac wd} hA => (hl.grown hA.j.st.gr).els) (by omega) (fun b q w => by simp [go_sem, Try.underlying25])) <| c_ (le_ (i * 4) (fun _ env _ wd hA => (hl.grown hA.j.st.gr).els) (by omega) (le3 (by exact sgC_0 l i))) <| c_ (fa0 (vP (pb E1 0) 0)) <| c_ (ld_ 0 (hrd := by exact rd3 rfl)) <| c_ (bi0 (vI ((sgi l i).d)) (vI d) (h := by intro env w; simp [go_sem, hc])) <| e_) (k := fun E9 ac wd h_9 => ?_)
  clear h_8
  refine then_n ?_
  refine cT_ h_9 ?_
  refine rf_ h_9 [[0],[0,1]] [K_ (vN i), K_ (vN i)] (fun E10 => [(0, .slice A0 l.length c0), (1, vI day), (2, vI off), (7, vP (pb E1 0) 0), (8, vP (pb E1 1) 0), (9, vI 0), (10, vN i), (11, vN i), (45, vN i), (46, .slice A0 l.length c0), (47, vN l.length), (48, bT), (51, .slice A0 l.length c0), (52, vN i), (53, elt (.slice A0 l.length c0) (i * 4)), (54, elt (.slice A0 l.length c0) (i * 4)), (55, vI ((sgi l i).d)), (56, vP (pb E1 0) 0), (57, vI d), (58, bT), (59, vN i)]) (hs := c_ mv_ <| c_ mv_ <| e_) (k := fun E10 ac wd h_10 => ?_)
  clear h_9
  refine blk_n (then_n ?_)
  refine rf_ h_10 (tri 3) [K_ (vN i), K_ (vI (((i : Nat) : Int) + 1)), K_ (vI (((i : Nat) : Int) + 1))] (fun E11 => [(0, .slice A0 l.length c0), (1, vI day), (2, vI off), (7, vP (pb E1 0) 0), (8, vP (pb E1 1) 0), (9, vI 0), (10, vN i), (11, vI (((i : Nat) : Int) + 1)), (45, vN i), (46, .slice A0 l.length c0), (47, vN l.length), (48, bT), (49, vN i), (50, vI (((i : Nat) : Int) + 1)), (51, .slice A0 l.length c0), (52, vN i), (53, elt (.slice A0 l.length c0) (i * 4)), (54, elt (.slice A0 l.length c0) (i * 4)), (55, vI ((sgi l i).d)), (56, vP (pb E1 0) 0), (57, vI d), (58, bT), (59, vN i)]) (hs := c_ mv_ <| c_ (bi0 (vN i) (vI 1)) <| c_ mv_ <| e_) (k := fun E11 ac wd h_11 => ?_)
  clear h_10
  refine then_n ?_
  have hk : kS l d (i + 1) = i := by simp only [kS]; rw [if_pos hc]
  refine ⟨⟨i + 1, by omega, ?_⟩, by rw [sI_eq (h_11.g (t := 11) rfl), hmu]; omega⟩
  rw [hk]; exact h_11.re rfl
  refine rf_ h_8 [[0],[1],[0,1,2],r_ 4,r_ 5,[5],[5,6],r_ 8] [K_ (.slice A0 l.length c0), K_ (vN i), K_ (elt (.slice A0 l.length c0) (i * 4)), K_ (elt (.slice A0 l.length c0) (i * 4)), K_ (vI ((sgi l i).d)), K_ (vP (pb E1 0) 0), K_ (vI d), K_ bF] (fun E9 => [(0, .slice A0 l.length c0), (1, vI day), (2, vI off), (7, vP (pb E1 0) 0), (8, vP (pb E1 1) 0), (9, vI 0), (10, vN (kS l d i)), (11, vN i), (45, vN i), (46, .slice A0 l.length c0), (47, vN l.length), (48, bT), (51, .slice A0 l.length c0), (52, vN i), (53, elt (.slice A0 l.length c0) (i * 4)), (54, elt (.slice A0 l.length c0) (i * 4)), (55, vI ((sgi l i).d)), (56, vP (pb E1 0) 0), (57, vI d), (58, bF)]) (hs := c_ mv_ <| c_ mv_ <| c_ (ia_ Try.underlying22 sz25 i (i * 4) ((i : Nat) : Int) (fun _ env _ wd hA => (hl.grown hA.j.st.gr).els) (rfl) (by omega) rfl) <| c_ (s_fa rfl rfl rfl (fun _ => wanted_none rfl _) (i * 4) 0 (i * 4) rfl (s := fun _ => .slice A0 l.length c0) rfl (fun _ => rfl) (fun {D env ac wd} hA => (hl.grown hA.j.st.gr).els) (by omega) (fun b q w => by simp [go_sem, Try.underlying25])) <| c_ (le_ (i * 4) (fun _ env _ wd hA => (hl.grown hA.j.st.gr).els) (by omega) (le3 (by exact sgC_0 l i))) <| c_ (fa0 (vP (pb E1 0) 0)) <| c_ (ld_ 0 (hrd := by exact rd3 rfl)) <| c_ (bi0 (vI ((sgi l i).d)) (vI d) (h := by intro env w; simp [go_sem, hc])) <| e_) (k := fun E9 ac wd h_9 => ?_)
  clear h_8
  refine then_n ?_
  refine cF_ h_9 ?_
  refine wp_skip (blk_n (then_n ?_))
  refine rf_ h_9 (tri 3) [K_ (vN i), K_ (vI (((i : Nat) : Int) + 1)), K_ (vI (((i : Nat) : Int) + 1))] (fun E10 => [(0, .slice A0 l.length c0), (1, vI day), (2, vI off), (7, vP (pb E1 0) 0), (8, vP (pb E1 1) 0), (9, vI 0), (10, vN (kS l d i)), (11, vI (((i : Nat) : Int) + 1)), (45, vN i), (46, .slice A0 l.length c0), (47, vN l.length), (48, bT), (49, vN i), (50, vI (((i : Nat) : Int) + 1)), (51, .slice A0 l.length c0), (52, vN i), (53, elt (.slice A0 l.length c0) (i * 4)), (54, elt (.slice A0 l.length c0) (i * 4)), (55, vI ((sgi l i).d)), (56, vP (pb E1 0) 0), (57, vI d), (58, bF)]) (hs := c_ mv_ <| c_ (bi0 (vN i) (vI 1)) <| c_ mv_ <| e_) (k := fun E10 ac wd h_10 => ?_)
  clear h_9
  refine then_n ?_
  have hk : kS l d (i + 1) = kS l d i := by simp only [kS]; rw [if_neg hc]
  refine ⟨⟨i + 1, by omega, ?_⟩, by rw [sI_eq (h_10.g (t := 11) rfl), hmu]; omega⟩
  rw [hk]; exact h_10.re rfl
  obtain rfl : i = l.length := by omega
  refine rf_ h_7 [[0],[1],[1,2],r_ 4] [K_ (vN l.length), K_ (.slice A0 l.length c0), K_ (vN l.length), K_ bF] (fun E8 => [(0, .slice A0 l.length c0), (1, vI day), (2, vI off), (7, vP (pb E1 0) 0), (8, vP (pb E1 1) 0), (9, vI 0), (10, vN (kS l d l.length)), (11, vN l.length), (45, vN l.length), (46, .slice A0 l.length c0), (47, vN l.length), (48, bF)]) (hs := c_ mv_ <| c_ mv_ <| c_ (ln_ Try.underlying22 fun _ env _ wd hA => (hl.grown hA.j.st.gr).els) <| c_ (bi0 (vN l.length) (vN l.length)) <| e_) (k := fun E8 ac wd h_8 => ?_)
  clear h_7
  refine then_n ?_
  refine cF_ h_8 ?_
  refine wp_exit (then_e (then_e (blk_x (then_n (wp_seq ?_)))))
  obtain ⟨k1, k2, k3⟩ := kS_in hL (x := d) (by omega) (by omega)
  obtain ⟨k, hk⟩ : ∃ k, k = kS l d l.length := ⟨_, rfl⟩
  rw [← hk] at k1 k2 k3 h_8
  have hs := hL.seg k k1
  have hE := hL.end_bd k1
  have q0 := hs.d0; have q1 := hL.unt_day k1
  refine rf_ h_8 [[0],[1],[0,1,2],r_ 4,[4],[4,5],r_ 7,[7],r_ 9] [K_ (.slice A0 l.length c0), K_ (vN k), K_ (elt (.slice A0 l.length c0) (k * 4)), K_ (vSg (sgi l k)), K_ (vL d s a), KE_ fun env => bigF (jn d s a) (env 5), KE_ fun env => bigF (fS (sgi l k) (jn d s a)) (env 6), KE_ fun env => vP (pb env 7) 0, none] (fun E9 => [(0, .slice A0 l.length c0), (1, vI day), (2, vI off), (7, vP (pb E1 0) 0), (8, vP (pb E1 1) 0), (9, vI 0), (10, vN k), (12, vP (pb E9 7) 0)]) (W := [{ i := 7, T := 46, c0 := [bF, .slice none 0 0], s := some 8, c1 := fun env => [.bool (decide (fS (sgi l k) (jn d s a) < 0)), rS (fS (sgi l k) (jn d s a)) ((bA (env 6))) ((bC (env 6)))] }]) (F := [(5, fun env w => BigN w0.heap.size w (env 5) (jn d s a)), (6, fun env w => BigN w0.heap.size w (env 6) (fS (sgi l k) (jn d s a)))]) (L1 := fun E9 => [fun w => BigN w0.heap.size w (E9 5) (jn d s a), fun w => BigN w0.heap.size w (E9 6) (fS (sgi l k) (jn d s a))]) (M' := fun E9 => [((pb E1 0), 36, [vI d, vI s, vI a]), ((pb E1 1), 46, [bF, .slice none 0 0]), ((pb E9 7), 46, [.bool (decide (fS (sgi l k) (jn d s a) < 0)), rS (fS (sgi l k) (jn d s a)) ((bA (E9 6))) ((bC (E9 6)))])]) (hs := c_ mv_ <| c_ mv_ <| c_ (ia_ Try.underlying22 sz25 k (k * 4) ((k : Nat) : Int) (fun _ env _ wd hA => (hl.grown hA.j.st.gr).els) (rfl) (by omega) rfl) <| c_ (le_ (k * 4) (fun _ env _ wd hA => (hl.grown hA.j.st.gr).els) (by omega) (le25 (by exact sgC_0 l k) (by exact sgC_1 l k) (by exact sgC_2 l k) (by exact sgC_3 l k))) <| c_ (ld_ 0 (hrd := by exact rd36 rfl rfl rfl)) <| c_ (cb_ Try.func23 (jn d s a) (h := fun _ env _ wd hA => ⟨_, Join_any wd d s a (by omega) (by omega) (by omega) (by omega) (by omega) (by omega), rfl⟩)) <| c_ (cb_ Try.func29 (fS (sgi l k) (jn d s a)) (h := fun _ env _ wd hA => ⟨_, F_any wd (sgi l k) hs _ (bA (env 5)) (bC (env 5)) (jn d s a) rfl (At.bigN hA 5 rfl rfl rfl) (by unfold jn; omega) (by unfold jn; omega), rfl⟩)) <| c_ (al_ 2) <| c_ (sw_ 2 7 (hst := by exact fun _ _ _ hc => st46 rfl rfl rfl hc)) <| e_) (k := fun E9 ac wd h_9 => ?_)
  clear h_8
  refine then_n (wp_seq (wp_seq ?_))
  by_cases e1 : s = 86400
  by_cases e2 : d + 1 = untS l day k
  by_cases e3 : endS l day off k ≤ fS (sgi l k) (jn d s a)
  refine rf_ h_9 [[0],[0,1],[0,1,2],r_ 4,r_ 5,r_ 6,r_ 7,[0,1,2,3,7],[0,1,2,3,8],[0,1,2,3,9],[0,1,2,3,7,8,9,10],r_ 12,r_ 13,r_ 14,r_ 15,[0,1,2,3,4,5,6,7,8,9,10,11,12,13,15],[0,1,2,3,4,5,6,7,8,9,10,11,12,13,16],[0,1,2,3,4,5,6,7,8,9,10,11,12,13,17],[0,1,2,3,4,5,6,7,8,9,10,11,12,13,18],[0,1,2,3,4,5,6,7,8,9,10,11,12,13,15,16,17,18,19],r_ 21,r_ 22,r_ 23] [K_ (vP (pb E1 0) 1), K_ (vI s), K_ bT, K_ bT, K_ (vP (pb E1 0) 0), K_ (vI d), K_ (vI (d + 1)), K_ (.slice A0 l.length c0), K_ (vI day), K_ (vN k), K_ (vI (untS l day k)), K_ bF, K_ bF, K_ bF, K_ (bigF (fS (sgi l k) (jn d s a)) (E9 6)), K_ (.slice A0 l.length c0), K_ (vI day), K_ (vI off), K_ (vN k), KE_ fun env => bigF (endS l day off k) (env 19), K_ (vI (cmpZ (fS (sgi l k) (jn d s a)) (endS l day off k))), K_ bT, K_ bT] (fun E10 => [(8, vP (pb E1 1) 0), (9, vI 0), (12, vP (pb E9 7) 0), (89, bT)]) (F := [(19, fun env w => BigN w0.heap.size w (env 19) (endS l day off k))]) (L1 := fun E10 => [fun w => BigN w0.heap.size w (E9 5) (jn d s a), fun w => BigN w0.heap.size w (E9 6) (fS (sgi l k) (jn d s a)), fun w => BigN w0.heap.size w (E10 19) (endS l day off k)]) (hs := c_ (fa0 (vP (pb E1 0) 0)) <| c_ (ld_ 0 (hrd := by exact rd3 rfl)) <| c_ (bi0 (vI s) (vI 86400) (h := by intro env w; simp [go_sem, e1])) <| c_ mv_ <| c_ (fa0 (vP (pb E1 0) 0)) <| c_ (ld_ 0 (hrd := by exact rd3 rfl)) <| c_ (bi0 (vI d) (vI 1)) <| c_ (gm0 (.slice A0 l.length c0)) <| c_ (gm0 (vI day)) <| c_ (gm0 (vN k)) <| c_ (cw_ Try.func26 (h := fun _ env _ wd hA => ⟨_, Until_any wd A0 c0 l (hl.grown hA.j.st.gr) day k (by omega), rfl⟩)) <| c_ (bi0 (vI (d + 1)) (vI (untS l day k)) (h := by intro env w; simp [go_sem, e2])) <| c_ (pk0 bT bF bF (h := by intro env w; simp [go_sem, e2])) <| c_ mv_ <| c_ (ld_ 2 (hrd := by exact rd46 rfl rfl)) <| c_ (gm0 (.slice A0 l.length c0)) <| c_ (gm0 (vI day)) <| c_ (gm0 (vI off)) <| c_ (gm0 (vN k)) <| c_ (cb_ Try.func27 (endS l day off k) (h := fun _ env _ wd hA => ⟨_, End_any wd A0 c0 l (hl.grown hA.j.st.gr) day off hL k (by omega), rfl⟩)) <| c_ (cw_ Try.func28 (h := fun _ env _ wd hA => ⟨_, Cmp_any wd (decide (fS (sgi l k) (jn d s a) < 0)) (bA (E9 6)) (bC (E9 6)) (fS (sgi l k) (jn d s a)) rfl (Facts.bigN (hA.j.st.now).1 1 rfl)  (decide (endS l day off k < 0)) (bA (env 19)) (bC (env 19)) (endS l day off k) rfl (At.bigN hA 19 rfl rfl rfl) , rfl⟩)) <| c_ (bi0 (vI (cmpZ (fS (sgi l k) (jn d s a)) (endS l day off k))) (vI 0) (h := by intro env w; simp [go_sem, cmpZ_le, cmpZ_lt, cmpZ_ge, cmpZ_gt, e3])) <| c_ (pk0 bF bT bT (h := by intro env w; simp [go_sem, cmpZ_le, cmpZ_lt, cmpZ_ge, cmpZ_gt, e3])) <| e_) (k := fun E10 ac wd h_10 => ?_)
  clear h_9
  refine then_n ?_
  refine cT_ h_10 ?_
  refine wp_seq ?_
  refine rf_ h_10 (tri 3) [K_ (.agg #[bF, .slice none 0 0]), none, K_ (vI 6)] (fun E11 => [(8, vP (pb E1 1) 0), (9, vI 6), (12, vP (pb E9 7) 0)]) (S := [⟨1, 1, fun _ => [bF, .slice none 0 0]⟩]) (M' := fun E11 => [((pb E1 0), 36, [vI d, vI s, vI a]), ((pb E1 1), 46, [bF, .slice none 0 0]), ((pb E9 7), 46, [.bool (decide (fS (sgi l k) (jn d s a) < 0)), rS (fS (sgi l k) (jn d s a)) ((bA (E9 6))) ((bC (E9 6)))])]) (hs := c_ (bd0 ([])) <| c_ (se_ 1 (hst := by exact fun _ _ _ hc => st46 rfl rfl rfl hc)) <| c_ mv_ <| e_) (k := fun E11 ac wd h_11 => ?_)
  clear h_10
  refine then_n (wp_ret (then_ret ?_))
  refine lvCT (v := .agg #[.bool false, .slice none 0 0]) Try.results12 h_11 1 (rd46 rfl rfl) ?_
  have hE2 : taiE l day off d s a = 6 := by unfold taiE; rw [if_neg (by rw [hfb]; simp), if_neg g1, if_neg g2, ← hk, if_pos (by omega)]
  have hV2 : taiV l day off d s a = 0 := by unfold taiV; rw [if_neg (by rw [hE2]; omega)]
  exact ⟨.agg #[.bool false, .slice none 0 0], by rw [hE2], h_11.st.below, BigN.nil hV2⟩
  refine rf_ h_9 [[0],[0,1],[0,1,2],r_ 4,r_ 5,r_ 6,r_ 7,[0,1,2,3,7],[0,1,2,3,8],[0,1,2,3,9],[0,1,2,3,7,8,9,10],r_ 12,r_ 13,r_ 14,r_ 15,[0,1,2,3,4,5,6,7,8,9,10,11,12,13,15],[0,1,2,3,4,5,6,7,8,9,10,11,12,13,16],[0,1,2,3,4,5,6,7,8,9,10,11,12,13,17],[0,1,2,3,4,5,6,7,8,9,10,11,12,13,18],[0,1,2,3,4,5,6,7,8,9,10,11,12,13,15,16,17,18,19],r_ 21,r_ 22,r_ 23] [K_ (vP (pb E1 0) 1), K_ (vI s), K_ bT, K_ bT, K_ (vP (pb E1 0) 0), K_ (vI d), K_ (vI (d + 1)), K_ (.slice A0 l.length c0), K_ (vI day), K_ (vN k), K_ (vI (untS l day k)), K_ bF, K_ bF, K_ bF, K_ (bigF (fS (sgi l k) (jn d s a)) (E9 6)), K_ (.slice A0 l.length c0), K_ (vI day), K_ (vI off), K_ (vN k), KE_ fun env => bigF (endS l day off k) (env 19), K_ (vI (cmpZ (fS (sgi l k) (jn d s a)) (endS l day off k))), K_ bF, K_ bF] (fun E10 => [(8, vP (pb E1 1) 0), (9, vI 0), (12, vP (pb E9 7) 0), (89, bF)]) (F := [(19, fun env w => BigN w0.heap.size w (env 19) (endS l day off k))]) (L1 := fun E10 => [fun w => BigN w0.heap.size w (E9 5) (jn d s a), fun w => BigN w0.heap.size w (E9 6) (fS (sgi l k) (jn d s a)), fun w => BigN w0.heap.size w (E10 19) (endS l day off k)]) (hs := c_ (fa0 (vP (pb E1 0) 0)) <| c_ (ld_ 0 (hrd := by exact rd3 rfl)) <| c_ (bi0 (vI s) (vI 86400) (h := by intro env w; simp [go_sem, e1])) <| c_ mv_ <| c_ (fa0 (vP (pb E1 0) 0)) <| c_ (ld_ 0 (hrd := by exact rd3 rfl)) <| c_ (bi0 (vI d) (vI 1)) <| c_ (gm0 (.slice A0 l.length c0)) <| c_ (gm0 (vI day)) <| c_ (gm0 (vN k)) <| c_ (cw_ Try.func26 (h := fun _ env _ wd hA => ⟨_, Until_any wd A0 c0 l (hl.grown hA.j.st.gr) day k (by omega), rfl⟩)) <| c_ (bi0 (vI (d + 1)) (vI (untS l day k)) (h := by intro env w; simp [go_sem, e2])) <| c_ (pk0 bT bF bF (h := by intro env w; simp [go_sem, e2])) <| c_ mv_ <| c_ (ld_ 2 (hrd := by exact rd46 rfl rfl)) <| c_ (gm0 (.slice A0 l.length c0)) <| c_ (gm0 (vI day)) <| c_ (gm0 (vI off)) <| c_ (gm0 (vN k)) <| c_ (cb_ Try.func27 (endS l day off k) (h := fun _ env _ wd hA => ⟨_, End_any wd A0 c0 l (hl.grown hA.j.st.gr) day off hL k (by omega), rfl⟩)) <| c_ (cw_ Try.func28 (h := fun _ env _ wd hA => ⟨_, Cmp_any wd (decide (fS (sgi l k) (jn d s a) < 0)) (bA (E9 6)) (bC (E9 6)) (fS (sgi l k) (jn d s a)) rfl (Facts.bigN (hA.j.st.now).1 1 rfl)  (decide (endS l day off k < 0)) (bA (env 19)) (bC (env 19)) (endS l day off k) rfl (At.bigN hA 19 rfl rfl rfl) , rfl⟩)) <| c_ (bi0 (vI (cmpZ (fS (sgi l k) (jn d s a)) (endS l day off k))) (vI 0) (h := by intro env w; simp [go_sem, cmpZ_le, cmpZ_lt, cmpZ_ge, cmpZ_gt, e3])) <| c_ (pk0 bF bT bF (h := by intro env w; simp [go_sem, cmpZ_le, cmpZ_lt, cmpZ_ge, cmpZ_gt, e3])) <| e_) (k := fun E10 ac wd h_10 => ?_)
  clear h_9
  refine then_n ?_
  refine cF_ h_10 ?_
  refine wp_skip (then_n (wp_seq ?_))
  refine rf_ h_10 (tri 3) [K_ (bigF (fS (sgi l k) (jn d s a)) (E9 6)), none, K_ (vI 0)] (fun E11 => [(8, vP (pb E1 1) 0), (9, vI 0)]) (S := [⟨1, 1, fun _ => [.bool (decide (fS (sgi l k) (jn d s a) < 0)), rS (fS (sgi l k) (jn d s a)) ((bA (E9 6))) ((bC (E9 6)))]⟩]) (M' := fun E11 => [((pb E1 0), 36, [vI d, vI s, vI a]), ((pb E1 1), 46, [.bool (decide (fS (sgi l k) (jn d s a) < 0)), rS (fS (sgi l k) (jn d s a)) ((bA (E9 6))) ((bC (E9 6)))]), ((pb E9 7), 46, [.bool (decide (fS (sgi l k) (jn d s a) < 0)), rS (fS (sgi l k) (jn d s a)) ((bA (E9 6))) ((bC (E9 6)))])]) (hs := c_ (ld_ 2 (hrd := by exact rd46 rfl rfl)) <| c_ (se_ 1 (hst := by exact fun _ _ _ hc => st46 rfl rfl rfl hc)) <| c_ mv_ <| e_) (k := fun E11 ac wd h_11 => ?_)
  clear h_10
  refine then_n (wp_ret ?_)
  refine lvCT (v := bigF (fS (sgi l k) (jn d s a)) (E9 6)) Try.results12 h_11 1 (rd46 rfl rfl) ?_
  have hE2 : taiE l day off d s a = 0 := by unfold taiE; rw [if_neg (by rw [hfb]; simp), if_neg g1, if_neg g2, ← hk, if_neg (by omega)]
  have hV2 : taiV l day off d s a = fS (sgi l k) (jn d s a) := by unfold taiV; rw [if_pos hE2, ← hk]
  exact ⟨bigF (fS (sgi l k) (jn d s a)) (E9 6), by rw [hE2], h_11.st.below, BigN.eq (BigN.mk rfl rfl (Facts.bN h_11.st.now 1 rfl)) hV2.symm⟩
  refine rf_ h_9 [[0],[0,1],[0,1,2],r_ 4,r_ 5,r_ 6,r_ 7,[0,1,2,3,7],[0,1,2,3,8],[0,1,2,3,9],[0,1,2,3,7,8,9,10],r_ 12,r_ 13,r_ 14,r_ 15,[0,1,2,3,4,5,6,7,8,9,10,11,12,13,15],[0,1,2,3,4,5,6,7,8,9,10,11,12,13,16],[0,1,2,3,4,5,6,7,8,9,10,11,12,13,17],[0,1,2,3,4,5,6,7,8,9,10,11,12,13,18],[0,1,2,3,4,5,6,7,8,9,10,11,12,13,15,16,17,18,19],r_ 21,r_ 22,r_ 23] [K_ (vP (pb E1 0) 1), K_ (vI s), K_ bT, K_ bT, K_ (vP (pb E1 0) 0), K_ (vI d), K_ (vI (d + 1)), K_ (.slice A0 l.length c0), K_ (vI day), K_ (vN k), K_ (vI (untS l day k)), K_ bT, K_ bT, K_ bT, K_ undef, K_ undef, K_ undef, K_ undef, K_ undef, K_ undef, K_ undef, K_ undef, K_ bT] (fun E10 => [(8, vP (pb E1 1) 0), (9, vI 0), (12, vP (pb E9 7) 0), (89, bT)]) (hs := c_ (fa0 (vP (pb E1 0) 0)) <| c_ (ld_ 0 (hrd := by exact rd3 rfl)) <| c_ (bi0 (vI s) (vI 86400) (h := by intro env w; simp [go_sem, e1])) <| c_ mv_ <| c_ (fa0 (vP (pb E1 0) 0)) <| c_ (ld_ 0 (hrd := by exact rd3 rfl)) <| c_ (bi0 (vI d) (vI 1)) <| c_ (gm0 (.slice A0 l.length c0)) <| c_ (gm0 (vI day)) <| c_ (gm0 (vN k)) <| c_ (cw_ Try.func26 (h := fun _ env _ wd hA => ⟨_, Until_any wd A0 c0 l (hl.grown hA.j.st.gr) day k (by omega), rfl⟩)) <| c_ (bi0 (vI (d + 1)) (vI (untS l day k)) (h := by intro env w; simp [go_sem, e2])) <| c_ (pk0 bT bT bF (h := by intro env w; simp [go_sem, e2])) <| c_ mv_ <| c_ off_ <| c_ off_ <| c_ off_ <| c_ off_ <| c_ off_ <| c_ off_ <| c_ off_ <| c_ off_ <| c_ (pk0 bT bT undef) <| e_) (k := fun E10 ac wd h_10 => ?_)
  clear h_9
  refine then_n ?_
  refine cT_ h_10 ?_
  refine wp_seq ?_
  refine rf_ h_10 (tri 3) [K_ (.agg #[bF, .slice none 0 0]), none, K_ (vI 6)] (fun E11 => [(8, vP (pb E1 1) 0), (9, vI 6), (12, vP (pb E9 7) 0)]) (S := [⟨1, 1, fun _ => [bF, .slice none 0 0]⟩]) (M' := fun E11 => [((pb E1 0), 36, [vI d, vI s, vI a]), ((pb E1 1), 46, [bF, .slice none 0 0]), ((pb E9 7), 46, [.bool (decide (fS (sgi l k) (jn d s a) < 0)), rS (fS (sgi l k) (jn d s a)) ((bA (E9 6))) ((bC (E9 6)))])]) (hs := c_ (bd0 ([])) <| c_ (se_ 1 (hst := by exact fun _ _ _ hc => st46 rfl rfl rfl hc)) <| c_ mv_ <| e_) (k := fun E11 ac wd h_11 => ?_)
  clear h_10
  refine then_n (wp_ret (then_ret ?_))
  refine lvCT (v := .agg #[.bool false, .slice none 0 0]) Try.results12 h_11 1 (rd46 rfl rfl) ?_
  have hE2 : taiE l day off d s a = 6 := by unfold taiE; rw [if_neg (by rw [hfb]; simp), if_neg g1, if_neg g2, ← hk, if_pos (by omega)]
  have hV2 : taiV l day off d s a = 0 := by unfold taiV; rw [if_neg (by rw [hE2]; omega)]
  exact ⟨.agg #[.bool false, .slice none 0 0], by rw [hE2], h_11.st.below, BigN.nil hV2⟩
  by_cases e3 : endS l day off k ≤ fS (sgi l k) (jn d s a)
  refine rf_ h_9 [[0],[0,1],[0,1,2],r_ 4,r_ 5,r_ 6,r_ 7,[0,1,2,3,7],[0,1,2,3,8],[0,1,2,3,9],[0,1,2,3,7,8,9,10],r_ 12,r_ 13,r_ 14,r_ 15,[0,1,2,3,4,5,6,7,8,9,10,11,12,13,15],[0,1,2,3,4,5,6,7,8,9,10,11,12,13,16],[0,1,2,3,4,5,6,7,8,9,10,11,12,13,17],[0,1,2,3,4,5,6,7,8,9,10,11,12,13,18],[0,1,2,3,4,5,6,7,8,9,10,11,12,13,15,16,17,18,19],r_ 21,r_ 22,r_ 23] [K_ (vP (pb E1 0) 1), K_ (vI s), K_ bF, K_ bF, K_ undef, K_ undef, K_ undef, K_ undef, K_ undef, K_ undef, K_ undef, K_ undef, K_ bF, K_ bF, K_ (bigF (fS (sgi l k) (jn d s a)) (E9 6)), K_ (.slice A0 l.length c0), K_ (vI day), K_ (vI off), K_ (vN k), KE_ fun env => bigF (endS l day off k) (env 19), K_ (vI (cmpZ (fS (sgi l k) (jn d s a)) (endS l day off k))), K_ bT, K_ bT] (fun E10 => [(8, vP (pb E1 1) 0), (9, vI 0), (12, vP (pb E9 7) 0), (89, bT)]) (F := [(19, fun env w => BigN w0.heap.size w (env 19) (endS l day off k))]) (L1 := fun E10 => [fun w => BigN w0.heap.size w (E9 5) (jn d s a), fun w => BigN w0.heap.size w (E9 6) (fS (sgi l k) (jn d s a)), fun w => BigN w0.heap.size w (E10 19) (endS l day off k)]) (hs := c_ (fa0 (vP (pb E1 0) 0)) <| c_ (ld_ 0 (hrd := by exact rd3 rfl)) <| c_ (bi0 (vI s) (vI 86400) (h := by intro env w; simp [go_sem, e1])) <| c_ mv_ <| c_ off_ <| c_ off_ <| c_ off_ <| c_ off_ <| c_ off_ <| c_ off_ <| c_ off_ <| c_ off_ <| c_ (pk0 bF undef bF) <| c_ mv_ <| c_ (ld_ 2 (hrd := by exact rd46 rfl rfl)) <| c_ (gm0 (.slice A0 l.length c0)) <| c_ (gm0 (vI day)) <| c_ (gm0 (vI off)) <| c_ (gm0 (vN k)) <| c_ (cb_ Try.func27 (endS l day off k) (h := fun _ env _ wd hA => ⟨_, End_any wd A0 c0 l (hl.grown hA.j.st.gr) day off hL k (by omega), rfl⟩)) <| c_ (cw_ Try.func28 (h := fun _ env _ wd hA => ⟨_, Cmp_any wd (decide (fS (sgi l k) (jn d s a) < 0)) (bA (E9 6)) (bC (E9 6)) (fS (sgi l k) (jn d s a)) rfl (Facts.bigN (hA.j.st.now).1 1 rfl)  (decide (endS l day off k < 0)) (bA (env 19)) (bC (env 19)) (endS l day off k) rfl (At.bigN hA 19 rfl rfl rfl) , rfl⟩)) <| c_ (bi0 (vI (cmpZ (fS (sgi l k) (jn d s a)) (endS l day off k))) (vI 0) (h := by intro env w; simp [go_sem, cmpZ_le, cmpZ_lt, cmpZ_ge, cmpZ_gt, e3])) <| c_ (pk0 bF bT bT (h := by intro env w; simp [go_sem, cmpZ_le, cmpZ_lt, cmpZ_ge, cmpZ_gt, e3])) <| e_) (k := fun E10 ac wd h_10 => ?_)
  clear h_9
  refine then_n ?_
  refine cT_ h_10 ?_
  refine wp_seq ?_
  refine rf_ h_10 (tri 3) [K_ (.agg #[bF, .slice none 0 0]), none, K_ (vI 6)] (fun E11 => [(8, vP (pb E1 1) 0), (9, vI 6), (12, vP (pb E9 7) 0)]) (S := [⟨1, 1, fun _ => [bF, .slice none 0 0]⟩]) (M' := fun E11 => [((pb E1 0), 36, [vI d, vI s, vI a]), ((pb E1 1), 46, [bF, .slice none 0 0]), ((pb E9 7), 46, [.bool (decide (fS (sgi l k) (jn d s a) < 0)), rS (fS (sgi l k) (jn d s a)) ((bA (E9 6))) ((bC (E9 6)))])]) (hs := c_ (bd0 ([])) <| c_ (se_ 1 (hst := by exact fun _ _ _ hc => st46 rfl rfl rfl hc)) <| c_ mv_ <| e_) (k := fun E11 ac wd h_11 => ?_)
  clear h_10
  refine then_n (wp_ret (then_ret ?_))
  refine lvCT (v := .agg #[.bool false, .slice none 0 0]) Try.results12 h_11 1 (rd46 rfl rfl) ?_
  have hE2 : taiE l day off d s a = 6 := by unfold taiE; rw [if_neg (by rw [hfb]; simp), if_neg g1, if_neg g2, ← hk, if_pos (by omega)]
  have hV2 : taiV l day off d s a = 0 := by unfold taiV; rw [if_neg (by rw [hE2]; omega)]
  exact ⟨.agg #[.bool false, .slice none 0 0], by rw [hE2], h_11.st.below, BigN.nil hV2⟩
  refine rf_ h_9 [[0],[0,1],[0,1,2],r_ 4,r_ 5,r_ 6,r_ 7,[0,1,2,3,7],[0,1,2,3,8],[0,1,2,3,9],[0,1,2,3,7,8,9,10],r_ 12,r_ 13,r_ 14,r_ 15,[0,1,2,3,4,5,6,7,8,9,10,11,12,13,15],[0,1,2,3,4,5,6,7,8,9,10,11,12,13,16],[0,1,2,3,4,5,6,7,8,9,10,11,12,13,17],[0,1,2,3,4,5,6,7,8,9,10,11,12,13,18],[0,1,2,3,4,5,6,7,8,9,10,11,12,13,15,16,17,18,19],r_ 21,r_ 22,r_ 23] [K_ (vP (pb E1 0) 1), K_ (vI s), K_ bF, K_ bF, K_ undef, K_ undef, K_ undef, K_ undef, K_ undef, K_ undef, K_ undef, K_ undef, K_ bF, K_ bF, K_ (bigF (fS (sgi l k) (jn d s a)) (E9 6)), K_ (.slice A0 l.length c0), K_ (vI day), K_ (vI off), K_ (vN k), KE_ fun env => bigF (endS l day off k) (env 19), K_ (vI (cmpZ (fS (sgi l k) (jn d s a)) (endS l day off k))), K_ bF, K_ bF] (fun E10 => [(8, vP (pb E1 1) 0), (9, vI 0), (12, vP (pb E9 7) 0), (89, bF)]) (F := [(19, fun env w => BigN w0.heap.size w (env 19) (endS l day off k))]) (L1 := fun E10 => [fun w => BigN w0.heap.size w (E9 5) (jn d s a), fun w => BigN w0.heap.size w (E9 6) (fS (sgi l k) (jn d s a)), fun w => BigN w0.heap.size w (E10 19) (endS l day off k)]) (hs := c_ (fa0 (vP (pb E1 0) 0)) <| c_ (ld_ 0 (hrd := by exact rd3 rfl)) <| c_ (bi0 (vI s) (vI 86400) (h := by intro env w; simp [go_sem, e1])) <| c_ mv_ <| c_ off_ <| c_ off_ <| c_ off_ <| c_ off_ <| c_ off_ <| c_ off_ <| c_ off_ <| c_ off_ <| c_ (pk0 bF undef bF) <| c_ mv_ <| c_ (ld_ 2 (hrd := by exact rd46 rfl rfl)) <| c_ (gm0 (.slice A0 l.length c0)) <| c_ (gm0 (vI day)) <| c_ (gm0 (vI off)) <| c_ (gm0 (vN k)) <| c_ (cb_ Try.func27 (endS l day off k) (h := fun _ env _ wd hA => ⟨_, End_any wd A0 c0 l (hl.grown hA.j.st.gr) day off hL k (by omega), rfl⟩)) <| c_ (cw_ Try.func28 (h := fun _ env _ wd hA => ⟨_, Cmp_any wd (decide (fS (sgi l k) (jn d s a) < 0)) (bA (E9 6)) (bC (E9 6)) (fS (sgi l k) (jn d s a)) rfl (Facts.bigN (hA.j.st.now).1 1 rfl)  (decide (endS l day off k < 0)) (bA (env 19)) (bC (env 19)) (endS l day off k) rfl (At.bigN hA 19 rfl rfl rfl) , rfl⟩)) <| c_ (bi0 (vI (cmpZ (fS (sgi l k) (jn d s a)) (endS l day off k))) (vI 0) (h := by intro env w; simp [go_sem, cmpZ_le, cmpZ_lt, cmpZ_ge, cmpZ_gt, e3])) <| c_ (pk0 bF bT bF (h := by intro env w; simp [go_sem, cmpZ_le, cmpZ_lt, cmpZ_ge, cmpZ_gt, e3])) <| e_) (k := fun E10 ac wd h_10 => ?_)
  clear h_9
  refine then_n ?_
  refine cF_ h_10 ?_
  refine wp_skip (then_n (wp_seq ?_))
  refine rf_ h_10 (tri 3) [K_ (bigF (fS (sgi l k) (jn d s a)) (E9 6)), none, K_ (vI 0)] (fun E11 => [(8, vP (pb E1 1) 0), (9, vI 0)]) (S := [⟨1, 1, fun _ => [.bool (decide (fS (sgi l k) (jn d s a) < 0)), rS (fS (sgi l k) (jn d s a)) ((bA (E9 6))) ((bC (E9 6)))]⟩]) (M' := fun E11 => [((pb E1 0), 36, [vI d, vI s, vI a]), ((pb E1 1), 46, [.bool (decide (fS (sgi l k) (jn d s a) < 0)), rS (fS (sgi l k) (jn d s a)) ((bA (E9 6))) ((bC (E9 6)))]), ((pb E9 7), 46, [.bool (decide (fS (sgi l k) (jn d s a) < 0)), rS (fS (sgi l k) (jn d s a)) ((bA (E9 6))) ((bC (E9 6)))])]) (hs := c_ (ld_ 2 (hrd := by exact rd46 rfl rfl)) <| c_ (se_ 1 (hst := by exact fun _ _ _ hc => st46 rfl rfl rfl hc)) <| c_ mv_ <| e_) (k := fun E11 ac wd h_11 => ?_)
  clear h_10
  refine then_n (wp_ret ?_)
  refine lvCT (v := bigF (fS (sgi l k) (jn d s a)) (E9 6)) Try.results12 h_11 1 (rd46 rfl rfl) ?_
  have hE2 : taiE l day off d s a = 0 := by unfold taiE; rw [if_neg (by rw [hfb]; simp), if_neg g1, if_neg g2, ← hk, if_neg (by omega)]
  have hV2 : taiV l day off d s a = fS (sgi l k) (jn d s a) := by unfold taiV; rw [if_pos hE2, ← hk]
  exact ⟨bigF (fS (sgi l k) (jn d s a)) (E9 6), by rw [hE2], h_11.st.below, BigN.eq (BigN.mk rfl rfl (Facts.bN h_11.st.now 1 rfl)) hV2.symm⟩
end Go.Proofs.Ytdfkghpgekmmlaa

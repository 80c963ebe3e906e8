/- rubber.times, plus, less, count, begin, cut, within, form (printed by my walk.py) -/
import Derived.Test.YtdfkghpgekmmlaaL4
import Derived.Test.YtdfkghpgekmmlaaC14
import Derived.Test.YtdfkghpgekmmlaaP14
import Derived.Test.YtdfkghpgekmmlaaM0
import Derived.Test.YtdfkghpgekmmlaaM1
import Derived.IntWalk
namespace Go.Proofs.Ytdfkghpgekmmlaa
open Go.RowKit
set_option linter.unusedVariables false
set_option linter.unusedSimpArgs false
attribute [local go_sem] vN bT bF vW vM vL vT2 vT3 vP vI execOp Act.eval evC hi_zero lo_zero Try.underlying36 Try.underlying39

/-- a number of 64 bits -/
def In64 (n : Int) : Prop := -9223372036854775808 ≤ n ∧ n < 9223372036854775808
theorem mul_abs {a b A B : Int} (a0 : -A ≤ a) (a1 : a ≤ A) (b0 : -B ≤ b) (b1 : b ≤ B) (hB : 0 ≤ B) : -(A * B) ≤ a * b ∧ a * b ≤ A * B := by
  have hA : 0 ≤ A := by omega
  have h1 : 0 ≤ (A - a) * (B + b) := Int.mul_nonneg (by omega) (by omega)
  have h2 : 0 ≤ (A + a) * (B - b) := Int.mul_nonneg (by omega) (by omega)
  have h3 : 0 ≤ (A - a) * (B - b) := Int.mul_nonneg (by omega) (by omega)
  have h4 : 0 ≤ (A + a) * (B + b) := Int.mul_nonneg (by omega) (by omega)
  rw [Int.sub_mul, Int.mul_add, Int.mul_add] at h1
  rw [Int.add_mul, Int.mul_sub, Int.mul_sub] at h2
  rw [Int.sub_mul, Int.mul_sub, Int.mul_sub] at h3
  rw [Int.add_mul, Int.mul_add, Int.mul_add] at h4
  constructor <;> omega
theorem mul_64 {a b : Int} (ha : In64 a) (hb : In64 b) : InW (a * b) := by
  have := mul_abs (a := a) (b := b) (A := 9223372036854775808) (B := 9223372036854775808) ha.1 (Int.le_of_lt ha.2) hb.1 (Int.le_of_lt hb.2) (by omega)
  unfold InW; omega
/-- numbers that are far from too great -/
def Bnd (z : Int) : Prop := -1000000000000000000000000000000000000 ≤ z ∧ z ≤ 1000000000000000000000000000000000000
theorem Bnd.w {z : Int} (h : Bnd z) : InW z := by unfold Bnd at h; unfold InW; omega

set_option maxRecDepth 100000 in
set_option maxHeartbeats 8000000 in
theorem times_core (a b v e : Int) (HA : Ret 42 #[vI a] (vW a)) (HB : Ret 42 #[vI b] (vW b)) (HM : Ret 55 #[vW a, vW b] (vT2 (vW v) (vI e))) : Ret 38 #[vI a, vI b] (vW v) := by
  intro w0
  have hst := St.start w0 (Θ := fun _ => True) (fun _ _ => trivial)
  refine en_ Try.func38 hst 16 [(0, vI a), (1, vI b)] (fun ac h => ?_)
  refine wp_seq ?_
  refine rg_ h [[0]] [KE_ fun env => vP (pb env 0) 0] (fun E1 => [(0, vI a), (1, vI b), (4, vP (pb E1 0) 0)]) (W := [{ i := 0, T := 39, c0 := [vI 0, .int .u64 0] }]) (M' := fun E1 => [((pb E1 0), 39, [vI 0, .int .u64 0])]) (hs := c_ (al_ 0) <| e_) (k := fun E1 ac wd h_1 => ?_)
  clear h
  refine then_n (wp_seq ?_)
  refine rg_ h_1 [[0],[0,1],[2],r_ 4,r_ 5,r_ 6,r_ 7,[0,1,2,3,4,5,7],[8],[0,1,2,3,4,5,6,8,9],r_ 11] [K_ (vI a), K_ (vW a), K_ (vI b), K_ (vW b), K_ (vT2 (vW v) (vI e)), K_ (vT2 (vW v) (vI e)), K_ (vW v), K_ (vI e), KE_ fun env => vP (pb env 8) 0, none, K_ (vI e)] (fun E2 => [(4, vP (pb E1 0) 0), (5, vP (pb E2 8) 0)]) (W := [{ i := 8, T := 39, c0 := [vI 0, .int .u64 0], s := some 9, c1 := fun _ => [vI (hi (v)), .int .u64 (lo (v))] }]) (M' := fun E2 => [((pb E1 0), 39, [vI 0, .int .u64 0]), ((pb E2 8), 39, [vI (hi (v)), .int .u64 (lo (v))])]) (hs := c_ mv_ <| c_ (cl_ Try.func42 (h := fun env => ⟨_, HA, rfl⟩)) <| c_ mv_ <| c_ (cl_ Try.func42 (h := fun env => ⟨_, HB, rfl⟩)) <| c_ (cl_ Try.func55 (h := fun env => ⟨_, HM, rfl⟩)) <| c_ mv_ <| c_ ext_ <| c_ ext_ <| c_ (al_ 1) <| c_ (sw_ 1 8 (hst := by exact fun _ _ _ hc => st39 rfl rfl rfl hc)) <| c_ mv_ <| e_) (k := fun E2 ac wd h_2 => ?_)
  clear h_1
  refine then_n (wp_seq ?_)
  refine rg_ h_2 [[0],[0,1]] [K_ (vW v), none] (fun E3 => [(4, vP (pb E1 0) 0)]) (S := [⟨0, 1, fun _ => [vI (hi (v)), .int .u64 (lo (v))]⟩]) (M' := fun E3 => [((pb E1 0), 39, [vI (hi (v)), .int .u64 (lo (v))]), ((pb E2 8), 39, [vI (hi (v)), .int .u64 (lo (v))])]) (hs := c_ (ld_ 1 (hrd := by exact rd39 rfl rfl)) <| c_ (se_ 0 (hst := by exact fun _ _ _ hc => st39 rfl rfl rfl hc)) <| e_) (k := fun E3 ac wd h_3 => ?_)
  clear h_2
  refine then_n (wp_ret ?_)
  refine lvC (v := vW v) Try.results38 h_3 0 (rd39 rfl rfl) ?_
  exact ⟨rfl, h_3.st.below⟩
theorem times_any (a b : Int) (ha : In64 a) (hb : In64 b) : Ret 38 #[vI a, vI b] (vW (a * b)) := by
  have h := mul_64 ha hb
  have := times_core a b _ _ (of_any a ha.1 ha.2) (of_any b hb.1 hb.2) (wmul_any a b (by unfold In64 at ha; unfold InW; omega) (by unfold In64 at hb; unfold InW; omega))
  rw [(fit_yes h).1] at this
  exact this
set_option maxRecDepth 100000 in
set_option maxHeartbeats 8000000 in
theorem plus_core (a b v e : Int) (HM : Ret 56 #[vW a, vW b] (vT2 (vW v) (vI e))) : Ret 39 #[vW a, vW b] (vW v) := by
  intro w0
  have hst := St.start w0 (Θ := fun _ => True) (fun _ _ => trivial)
  refine en_ Try.func39 hst 14 [(0, vW a), (1, vW b)] (fun ac h => ?_)
  refine wp_seq ?_
  refine rg_ h [[0],[1],[2]] [KE_ fun env => vP (pb env 0) 0, KE_ fun env => vP (pb env 1) 0, KE_ fun env => vP (pb env 2) 0] (fun E1 => [(2, vP (pb E1 0) 0), (3, vP (pb E1 1) 0), (4, vP (pb E1 2) 0)]) (W := [{ i := 0, T := 39, c0 := [vI (hi (a)), .int .u64 (lo (a))] }, { i := 1, T := 39, c0 := [vI (hi (b)), .int .u64 (lo (b))] }, { i := 2, T := 39, c0 := [vI 0, .int .u64 0] }]) (M' := fun E1 => [((pb E1 0), 39, [vI (hi (a)), .int .u64 (lo (a))]), ((pb E1 1), 39, [vI (hi (b)), .int .u64 (lo (b))]), ((pb E1 2), 39, [vI 0, .int .u64 0])]) (hs := c_ (bx0 0 (vW a)) <| c_ (bx0 1 (vW b)) <| c_ (al_ 2) <| e_) (k := fun E1 ac wd h_1 => ?_)
  clear h
  refine then_n (wp_seq ?_)
  refine rg_ h_1 [[0],[1],[0,1,2],r_ 4,r_ 5,[0,1,2,3,5],[6],[0,1,2,3,4,6,7],r_ 9] [K_ (vW a), K_ (vW b), K_ (vT2 (vW v) (vI e)), K_ (vT2 (vW v) (vI e)), K_ (vW v), K_ (vI e), KE_ fun env => vP (pb env 6) 0, none, K_ (vI e)] (fun E2 => [(4, vP (pb E1 2) 0), (5, vP (pb E2 6) 0)]) (W := [{ i := 6, T := 39, c0 := [vI 0, .int .u64 0], s := some 7, c1 := fun _ => [vI (hi (v)), .int .u64 (lo (v))] }]) (M' := fun E2 => [((pb E1 0), 39, [vI (hi (a)), .int .u64 (lo (a))]), ((pb E1 1), 39, [vI (hi (b)), .int .u64 (lo (b))]), ((pb E1 2), 39, [vI 0, .int .u64 0]), ((pb E2 6), 39, [vI (hi (v)), .int .u64 (lo (v))])]) (hs := c_ (ld_ 0 (hrd := by exact rd39 rfl rfl)) <| c_ (ld_ 1 (hrd := by exact rd39 rfl rfl)) <| c_ (cl_ Try.func56 (h := fun env => ⟨_, HM, rfl⟩)) <| c_ mv_ <| c_ ext_ <| c_ ext_ <| c_ (al_ 3) <| c_ (sw_ 3 6 (hst := by exact fun _ _ _ hc => st39 rfl rfl rfl hc)) <| c_ mv_ <| e_) (k := fun E2 ac wd h_2 => ?_)
  clear h_1
  refine then_n (wp_seq ?_)
  refine rg_ h_2 [[0],[0,1]] [K_ (vW v), none] (fun E3 => [(4, vP (pb E1 2) 0)]) (S := [⟨2, 1, fun _ => [vI (hi (v)), .int .u64 (lo (v))]⟩]) (M' := fun E3 => [((pb E1 0), 39, [vI (hi (a)), .int .u64 (lo (a))]), ((pb E1 1), 39, [vI (hi (b)), .int .u64 (lo (b))]), ((pb E1 2), 39, [vI (hi (v)), .int .u64 (lo (v))]), ((pb E2 6), 39, [vI (hi (v)), .int .u64 (lo (v))])]) (hs := c_ (ld_ 3 (hrd := by exact rd39 rfl rfl)) <| c_ (se_ 2 (hst := by exact fun _ _ _ hc => st39 rfl rfl rfl hc)) <| e_) (k := fun E3 ac wd h_3 => ?_)
  clear h_2
  refine then_n (wp_ret ?_)
  refine lvC (v := vW v) Try.results39 h_3 2 (rd39 rfl rfl) ?_
  exact ⟨rfl, h_3.st.below⟩
theorem plus_any (a b : Int) (ha : InW a) (hb : InW b) (h : InW (a + b)) : Ret 39 #[vW a, vW b] (vW (a + b)) := by
  have := plus_core a b _ _ (wadd_any a b ha hb)
  rw [(fit_yes h).1] at this
  exact this
set_option maxRecDepth 100000 in
set_option maxHeartbeats 8000000 in
theorem less_core (a b v e : Int) (HM : Ret 65 #[vW a, vW b] (vT2 (vW v) (vI e))) : Ret 41 #[vW a, vW b] (vW v) := by
  intro w0
  have hst := St.start w0 (Θ := fun _ => True) (fun _ _ => trivial)
  refine en_ Try.func41 hst 14 [(0, vW a), (1, vW b)] (fun ac h => ?_)
  refine wp_seq ?_
  refine rg_ h [[0],[1],[2]] [KE_ fun env => vP (pb env 0) 0, KE_ fun env => vP (pb env 1) 0, KE_ fun env => vP (pb env 2) 0] (fun E1 => [(2, vP (pb E1 0) 0), (3, vP (pb E1 1) 0), (4, vP (pb E1 2) 0)]) (W := [{ i := 0, T := 39, c0 := [vI (hi (a)), .int .u64 (lo (a))] }, { i := 1, T := 39, c0 := [vI (hi (b)), .int .u64 (lo (b))] }, { i := 2, T := 39, c0 := [vI 0, .int .u64 0] }]) (M' := fun E1 => [((pb E1 0), 39, [vI (hi (a)), .int .u64 (lo (a))]), ((pb E1 1), 39, [vI (hi (b)), .int .u64 (lo (b))]), ((pb E1 2), 39, [vI 0, .int .u64 0])]) (hs := c_ (bx0 0 (vW a)) <| c_ (bx0 1 (vW b)) <| c_ (al_ 2) <| e_) (k := fun E1 ac wd h_1 => ?_)
  clear h
  refine then_n (wp_seq ?_)
  refine rg_ h_1 [[0],[1],[0,1,2],r_ 4,r_ 5,[0,1,2,3,5],[6],[0,1,2,3,4,6,7],r_ 9] [K_ (vW a), K_ (vW b), K_ (vT2 (vW v) (vI e)), K_ (vT2 (vW v) (vI e)), K_ (vW v), K_ (vI e), KE_ fun env => vP (pb env 6) 0, none, K_ (vI e)] (fun E2 => [(4, vP (pb E1 2) 0), (5, vP (pb E2 6) 0)]) (W := [{ i := 6, T := 39, c0 := [vI 0, .int .u64 0], s := some 7, c1 := fun _ => [vI (hi (v)), .int .u64 (lo (v))] }]) (M' := fun E2 => [((pb E1 0), 39, [vI (hi (a)), .int .u64 (lo (a))]), ((pb E1 1), 39, [vI (hi (b)), .int .u64 (lo (b))]), ((pb E1 2), 39, [vI 0, .int .u64 0]), ((pb E2 6), 39, [vI (hi (v)), .int .u64 (lo (v))])]) (hs := c_ (ld_ 0 (hrd := by exact rd39 rfl rfl)) <| c_ (ld_ 1 (hrd := by exact rd39 rfl rfl)) <| c_ (cl_ Try.func65 (h := fun env => ⟨_, HM, rfl⟩)) <| c_ mv_ <| c_ ext_ <| c_ ext_ <| c_ (al_ 3) <| c_ (sw_ 3 6 (hst := by exact fun _ _ _ hc => st39 rfl rfl rfl hc)) <| c_ mv_ <| e_) (k := fun E2 ac wd h_2 => ?_)
  clear h_1
  refine then_n (wp_seq ?_)
  refine rg_ h_2 [[0],[0,1]] [K_ (vW v), none] (fun E3 => [(4, vP (pb E1 2) 0)]) (S := [⟨2, 1, fun _ => [vI (hi (v)), .int .u64 (lo (v))]⟩]) (M' := fun E3 => [((pb E1 0), 39, [vI (hi (a)), .int .u64 (lo (a))]), ((pb E1 1), 39, [vI (hi (b)), .int .u64 (lo (b))]), ((pb E1 2), 39, [vI (hi (v)), .int .u64 (lo (v))]), ((pb E2 6), 39, [vI (hi (v)), .int .u64 (lo (v))])]) (hs := c_ (ld_ 3 (hrd := by exact rd39 rfl rfl)) <| c_ (se_ 2 (hst := by exact fun _ _ _ hc => st39 rfl rfl rfl hc)) <| e_) (k := fun E3 ac wd h_3 => ?_)
  clear h_2
  refine then_n (wp_ret ?_)
  refine lvC (v := vW v) Try.results41 h_3 2 (rd39 rfl rfl) ?_
  exact ⟨rfl, h_3.st.below⟩
theorem less_any (a b : Int) (ha : InW a) (hb : InW b) (h : InW (a - b)) : Ret 41 #[vW a, vW b] (vW (a - b)) := by
  have := less_core a b _ _ (wsub_any a b ha hb)
  rw [(fit_yes h).1] at this
  exact this
set_option maxRecDepth 100000 in
set_option maxHeartbeats 8000000 in
theorem count_core (d s x : Int) (hd : -1099511627777 ≤ d) (hd1 : d ≤ 1099511627777) (hs : -1000000 ≤ s) (hs1 : s ≤ 1000000) (hx : 0 ≤ x) (hx1 : x < 1000000000000000000) : Ret 20 #[vL d s x] (vW ((d * 86400 + s) * 1000000000000000000 + x)) := by
  intro w0
  have hst := St.start w0 (Θ := fun _ => True) (fun _ _ => trivial)
  refine en_ Try.func20 hst 14 [(0, vL d s x)] (fun ac h => ?_)
  refine wp_seq ?_
  refine rg_ h [[0],[1]] [KE_ fun env => vP (pb env 0) 0, KE_ fun env => vP (pb env 1) 0] (fun E1 => [(1, vP (pb E1 0) 0), (2, vP (pb E1 1) 0)]) (W := [{ i := 0, T := 36, c0 := [vI d, vI s, vI x] }, { i := 1, T := 39, c0 := [vI 0, .int .u64 0] }]) (M' := fun E1 => [((pb E1 0), 36, [vI d, vI s, vI x]), ((pb E1 1), 39, [vI 0, .int .u64 0])]) (hs := c_ (bx0 0 (vL d s x)) <| c_ (al_ 1) <| e_) (k := fun E1 ac wd h_1 => ?_)
  clear h
  refine then_n (wp_seq ?_)
  refine rg_ h_1 [[0],[0,1],[0,1,2],[3],[3,4],r_ 6,r_ 7,[7],[7,8],r_ 10,r_ 11,r_ 12] [K_ (vP (pb E1 0) 0), K_ (vI d), K_ (vI (d * 86400)), K_ (vP (pb E1 0) 1), K_ (vI s), K_ (vI ((d * 86400) + s)), K_ (vW ((d * 86400 + s) * 1000000000000000000)), K_ (vP (pb E1 0) 2), K_ (vI x), K_ (vW x), K_ (vW ((d * 86400 + s) * 1000000000000000000 + x)), none] (fun E2 => [(2, vP (pb E1 1) 0)]) (S := [⟨1, 11, fun _ => [vI (hi ((d * 86400 + s) * 1000000000000000000 + x)), .int .u64 (lo ((d * 86400 + s) * 1000000000000000000 + x))]⟩]) (M' := fun E2 => [((pb E1 0), 36, [vI d, vI s, vI x]), ((pb E1 1), 39, [vI (hi ((d * 86400 + s) * 1000000000000000000 + x)), .int .u64 (lo ((d * 86400 + s) * 1000000000000000000 + x))])]) (hs := c_ (fa0 (vP (pb E1 0) 0)) <| c_ (ld_ 0 (hrd := by exact rd3 rfl)) <| c_ (bi0 (vI d) (vI 86400)) <| c_ (fa0 (vP (pb E1 0) 0)) <| c_ (ld_ 0 (hrd := by exact rd3 rfl)) <| c_ (bi0 (vI (d * 86400)) (vI s)) <| c_ (cl_ Try.func38 (h := fun env => ⟨_, (times_any (d * 86400 + s) 1000000000000000000 (by unfold In64; omega) (by unfold In64; omega)), rfl⟩)) <| c_ (fa0 (vP (pb E1 0) 0)) <| c_ (ld_ 0 (hrd := by exact rd3 rfl)) <| c_ (cl_ Try.func42 (h := fun env => ⟨_, (of_any x (by omega) (by omega)), rfl⟩)) <| c_ (cl_ Try.func39 (h := fun env => ⟨_, (plus_any _ x (by unfold InW; omega) (by unfold InW; omega) (by unfold InW; omega)), rfl⟩)) <| c_ (se_ 1 (hst := by exact fun _ _ _ hc => st39 rfl rfl rfl hc)) <| e_) (k := fun E2 ac wd h_2 => ?_)
  clear h_1
  refine then_n (wp_ret ?_)
  refine lvC (v := vW ((d * 86400 + s) * 1000000000000000000 + x)) Try.results20 h_2 1 (rd39 rfl rfl) ?_
  exact ⟨rfl, h_2.st.below⟩
theorem rcount_any (d s x : Int) (hd : -1099511627777 ≤ d) (hd1 : d ≤ 1099511627777) (hs : -1000000 ≤ s) (hs1 : s ≤ 1000000) (hx : 0 ≤ x) (hx1 : x < 1000000000000000000) : Ret 20 #[vL d s x] (vW (jn d s x)) := count_core d s x hd hd1 hs hs1 hx hx1
set_option maxRecDepth 100000 in
set_option maxHeartbeats 8000000 in
theorem begin_any (d : Int) (hd : -1099511627777 ≤ d) (hd1 : d ≤ 1099511627777) : Ret 19 #[vI d] (vW (jn d 0 0)) := by
  intro w0
  have hst := St.start w0 (Θ := fun _ => True) (fun _ _ => trivial)
  refine en_ Try.func19 hst 6 [(0, vI d)] (fun ac h => ?_)
  refine wp_seq ?_
  refine rg_ h [[0]] [KE_ fun env => vP (pb env 0) 0] (fun E1 => [(0, vI d), (2, vP (pb E1 0) 0)]) (W := [{ i := 0, T := 39, c0 := [vI 0, .int .u64 0] }]) (M' := fun E1 => [((pb E1 0), 39, [vI 0, .int .u64 0])]) (hs := c_ (al_ 0) <| e_) (k := fun E1 ac wd h_1 => ?_)
  clear h
  refine then_n (wp_seq ?_)
  refine rg_ h_1 (tri 4) [K_ (vI d), K_ (vL d 0 0), K_ (vW (jn d 0 0)), none] (fun E2 => [(2, vP (pb E1 0) 0)]) (S := [⟨0, 3, fun _ => [vI (hi (jn d 0 0)), .int .u64 (lo (jn d 0 0))]⟩]) (M' := fun E2 => [((pb E1 0), 39, [vI (hi (jn d 0 0)), .int .u64 (lo (jn d 0 0))])]) (hs := c_ mv_ <| c_ (bd0 ([vI d])) <| c_ (cl_ Try.func20 (h := fun env => ⟨_, (rcount_any d 0 0 hd hd1 (by omega) (by omega) (by omega) (by omega)), rfl⟩)) <| c_ (se_ 0 (hst := by exact fun _ _ _ hc => st39 rfl rfl rfl hc)) <| e_) (k := fun E2 ac wd h_2 => ?_)
  clear h_1
  refine then_n (wp_ret ?_)
  refine lvC (v := vW (jn d 0 0)) Try.results19 h_2 0 (rd39 rfl rfl) ?_
  exact ⟨rfl, h_2.st.below⟩
def wthn (n l u : Int) : Bool := decide (l ≤ n) && decide (n ≤ u)
set_option maxRecDepth 100000 in
set_option maxHeartbeats 8000000 in
theorem within_core (n l u : Int) : Ret 37 #[vI n, vI l, vI u] (.bool (decide (l ≤ n) && decide (n ≤ u))) := by
  intro w0
  have hst := St.start w0 (Θ := fun _ => True) (fun _ _ => trivial)
  refine en_ Try.func37 hst 15 [(0, vI n), (1, vI l), (2, vI u)] (fun ac h => ?_)
  refine wp_seq ?_
  refine rg_ h [[0]] [K_ bF] (fun E1 => [(0, vI n), (1, vI l), (2, vI u), (6, bF)]) (hs := c_ mv_ <| e_) (k := fun E1 ac wd h_1 => ?_)
  clear h
  refine then_n (wp_seq ?_)
  by_cases h : l ≤ n
  refine rg_ h_1 [[0],[1],[0,1,2],r_ 4,r_ 5,[0,1,2,3,5],r_ 7,r_ 8,r_ 9] [K_ (vI n), K_ (vI l), K_ bT, K_ bT, K_ (vI n), K_ (vI u), K_ (.bool (decide (n ≤ u))), K_ (.bool (decide (n ≤ u))), K_ (.bool (decide (n ≤ u)))] (fun E2 => [(6, .bool (decide (n ≤ u)))]) (hs := c_ mv_ <| c_ mv_ <| c_ (bi0 (vI n) (vI l) (h := by intro env w; simp [go_sem, h])) <| c_ mv_ <| c_ (gm0 (vI n)) <| c_ (gm0 (vI u)) <| c_ (bi0 (vI n) (vI u)) <| c_ (pk0 bT (.bool (decide (n ≤ u))) bF) <| c_ mv_ <| e_) (k := fun E2 ac wd h_2 => ?_)
  clear h_1
  refine then_n (wp_ret ?_)
  refine lvT Try.results37 h_2 ?_
  exact ⟨by simp [h], h_2.st.below⟩
  refine rg_ h_1 [[0],[1],[0,1,2],r_ 4,r_ 5,[0,1,2,3,5],r_ 7,r_ 8,r_ 9] [K_ (vI n), K_ (vI l), K_ bF, K_ bF, K_ undef, K_ undef, K_ undef, K_ bF, K_ bF] (fun E2 => [(6, bF)]) (hs := c_ mv_ <| c_ mv_ <| c_ (bi0 (vI n) (vI l) (h := by intro env w; simp [go_sem, h])) <| c_ mv_ <| c_ off_ <| c_ off_ <| c_ off_ <| c_ (pk0 bF undef bF) <| c_ mv_ <| e_) (k := fun E2 ac wd h_2 => ?_)
  clear h_1
  refine then_n (wp_ret ?_)
  refine lvT Try.results37 h_2 ?_
  exact ⟨by simp [h], h_2.st.below⟩
theorem rwithin_any (n l u : Int) : Ret 37 #[vI n, vI l, vI u] (.bool (wthn n l u)) := within_core n l u
def formB (s x : Int) : Bool := wthn s 0 86400 && wthn x 0 999999999999999999
set_option maxRecDepth 100000 in
set_option maxHeartbeats 8000000 in
theorem form_core (d s x : Int) : Ret 30 #[vL d s x] (.bool (wthn s 0 86400 && wthn x 0 999999999999999999)) := by
  intro w0
  have hst := St.start w0 (Θ := fun _ => True) (fun _ _ => trivial)
  refine en_ Try.func30 hst 11 [(0, vL d s x)] (fun ac h => ?_)
  refine wp_seq ?_
  refine rg_ h [[0],[1]] [KE_ fun env => vP (pb env 0) 0, K_ bF] (fun E1 => [(1, vP (pb E1 0) 0), (2, bF)]) (W := [{ i := 0, T := 36, c0 := [vI d, vI s, vI x] }]) (M' := fun E1 => [((pb E1 0), 36, [vI d, vI s, vI x])]) (hs := c_ (bx0 0 (vL d s x)) <| c_ mv_ <| e_) (k := fun E1 ac wd h_1 => ?_)
  clear h
  refine then_n (wp_seq ?_)
  cases h : wthn s 0 86400
  refine rg_ h_1 (tri 9) [K_ (vP (pb E1 0) 1), K_ (vI s), K_ bF, K_ bF, K_ undef, K_ undef, K_ undef, K_ bF, K_ bF] (fun E2 => [(2, bF)]) (hs := c_ (fa0 (vP (pb E1 0) 0)) <| c_ (ld_ 0 (hrd := by exact rd3 rfl)) <| c_ (cl_ Try.func37 (h := fun env => ⟨_, ((rwithin_any s 0 86400).eq (congrArg Value.bool h)), rfl⟩)) <| c_ mv_ <| c_ off_ <| c_ off_ <| c_ off_ <| c_ (pk0 bF undef bF) <| c_ mv_ <| e_) (k := fun E2 ac wd h_2 => ?_)
  clear h_1
  refine then_n (wp_ret ?_)
  refine lvT Try.results30 h_2 ?_
  exact ⟨by simp [h], h_2.st.below⟩
  refine rg_ h_1 (tri 9) [K_ (vP (pb E1 0) 1), K_ (vI s), K_ bT, K_ bT, K_ (vP (pb E1 0) 2), K_ (vI x), K_ (.bool (wthn x 0 999999999999999999)), K_ (.bool (wthn x 0 999999999999999999)), K_ (.bool (wthn x 0 999999999999999999))] (fun E2 => [(2, .bool (wthn x 0 999999999999999999))]) (hs := c_ (fa0 (vP (pb E1 0) 0)) <| c_ (ld_ 0 (hrd := by exact rd3 rfl)) <| c_ (cl_ Try.func37 (h := fun env => ⟨_, ((rwithin_any s 0 86400).eq (congrArg Value.bool h)), rfl⟩)) <| c_ mv_ <| c_ (fa0 (vP (pb E1 0) 0)) <| c_ (ld_ 0 (hrd := by exact rd3 rfl)) <| c_ (cl_ Try.func37 (h := fun env => ⟨_, (rwithin_any x 0 999999999999999999), rfl⟩)) <| c_ (pk0 bT (.bool (wthn x 0 999999999999999999)) bF) <| c_ mv_ <| e_) (k := fun E2 ac wd h_2 => ?_)
  clear h_1
  refine then_n (wp_ret ?_)
  refine lvT Try.results30 h_2 ?_
  exact ⟨by simp [h], h_2.st.below⟩
theorem rform_any (d s x : Int) : Ret 30 #[vL d s x] (.bool (formB s x)) := form_core d s x
end Go.Proofs.Ytdfkghpgekmmlaa

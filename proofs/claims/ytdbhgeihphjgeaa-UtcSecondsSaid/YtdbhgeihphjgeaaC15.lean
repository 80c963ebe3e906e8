/- rubber.times, plus, less, count, begin, cut, within, form (printed by my walk.py) -/
import Derived.Test.YtdbhgeihphjgeaaL4
import Derived.Test.YtdbhgeihphjgeaaC14
import Derived.Test.YtdbhgeihphjgeaaP14
import Derived.Test.YtdbhgeihphjgeaaM1
import Derived.IntWalk
namespace Go.Proofs.Ytdbhgeihphjgeaa
open Go.RowKit
set_option linter.unusedVariables false
set_option linter.unusedSimpArgs false
attribute [local go_sem] vN bT bF vW vM vL vT2 vT3 vP vI execOp Act.eval evC hi_zero lo_zero Try.underlying63 Try.underlying66

/-- a number of 64 bits -/
def In64 (n : Int) : Prop := -9223372036854775808 ≤ n ∧ n < 9223372036854775808
theorem mul_abs {a b A B : Int} (a0 : -A ≤ a) (a1 : a ≤ A) (b0 : -B ≤ b) (b1 : b ≤ B) (hB : 0 ≤ B) : -(A * B) ≤ a * b ∧ a * b ≤ A * B := by
  have hA : 0 ≤ A := by omega
  have h1 : 0 ≤ (A - a) * (B + b) := Int.mul_nonneg (by omega) (by omega)
  have h2 : 0 ≤ (A + a) * (B - b) := Int.mul_nonneg (by omega) (by omega)
  have h3 : 0 ≤ (A - a) * (B - b) := Int.mul_nonneg (by omega) (by omega)
  have h4 : 0 ≤ (A + a) * (B + b) := Int.mul_nonneg (by omega) (by omega)
  rw [Int.sub_mul, Int.mul_add, Int.mul_add] at h1
  rw [Int.add_mul, Int.mul_sub, Int.mul_sub] at h2
  rw [Int.sub_mul, Int.mul_sub, Int.mul_sub] at h3
  rw [Int.add_mul, Int.mul_add, Int.mul_add] at h4
  constructor <;> omega
theorem mul_64 {a b : Int} (ha : In64 a) (hb : In64 b) : InW (a * b) := by
  have := mul_abs (a := a) (b := b) (A := 9223372036854775808) (B := 9223372036854775808) ha.1 (Int.le_of_lt ha.2) hb.1 (Int.le_of_lt hb.2) (by omega)
  unfold InW; omega
/-- numbers that are far from too great -/
def Bnd (z : Int) : Prop := -1000000000000000000000000000000000000 ≤ z ∧ z ≤ 1000000000000000000000000000000000000
theorem Bnd.w {z : Int} (h : Bnd z) : InW z := by unfold Bnd at h; unfold InW; omega

set_option maxRecDepth 100000 in
set_option maxHeartbeats 8000000 in
theorem times_core (a b v e : Int) (HA : Ret 93 #[vI a] (vW a)) (HB : Ret 93 #[vI b] (vW b)) (HM : Ret 118 #[vW a, vW b] (vT2 (vW v) (vI e))) : Ret 105 #[vI a, vI b] (vW v) := by
  intro w0
  have hst := St.start w0 (Θ := fun _ => True) (fun _ _ => trivial)
  refine enter Try.func105 rfl (n := 16) rfl (Nat.le_of_ble_eq_true rfl) hst (L := [(0, vI a), (1, vI b)]) (lk_args rfl) (fun ac h => ?_)
  refine wp_seq ?_
  refine rg_ h [[0]] [KE_ fun env => vP (pb env 0) 0] (fun E1 => [(0, vI a), (1, vI b), (4, vP (pb E1 0) 0)]) (W := [{ i := 0, T := 66, c0 := [vI 0, .int .u64 0] }]) (M' := fun E1 => [((pb E1 0), 66, [vI 0, .int .u64 0])]) (hs := c_ (al_ 0) <| e_) (k := fun E1 ac wd h_1 => ?_)
  clear h
  refine then_n (wp_seq ?_)
  refine rg_ h_1 [[0],[0,1],[2],r_ 4,r_ 5,r_ 6,r_ 7,[0,1,2,3,4,5,7],[8],[0,1,2,3,4,5,6,8,9],r_ 11] [K_ (vI a), K_ (vW a), K_ (vI b), K_ (vW b), K_ (vT2 (vW v) (vI e)), K_ (vT2 (vW v) (vI e)), K_ (vW v), K_ (vI e), KE_ fun env => vP (pb env 8) 0, none, K_ (vI e)] (fun E2 => [(4, vP (pb E1 0) 0), (5, vP (pb E2 8) 0)]) (W := [{ i := 8, T := 66, c0 := [vI 0, .int .u64 0], s := some 9, c1 := fun _ => [vI (hi (v)), .int .u64 (lo (v))] }]) (M' := fun E2 => [((pb E1 0), 66, [vI 0, .int .u64 0]), ((pb E2 8), 66, [vI (hi (v)), .int .u64 (lo (v))])]) (hs := c_ mv_ <| c_ (cl_ Try.func93 (h := fun env => ⟨_, HA, rfl⟩)) <| c_ mv_ <| c_ (cl_ Try.func93 (h := fun env => ⟨_, HB, rfl⟩)) <| c_ (cl_ Try.func118 (h := fun env => ⟨_, HM, rfl⟩)) <| c_ mv_ <| c_ ext_ <| c_ ext_ <| c_ (al_ 1) <| c_ (sw_ 1 8 (hst := by exact fun _ _ _ hc => st66 rfl rfl rfl hc)) <| c_ mv_ <| e_) (k := fun E2 ac wd h_2 => ?_)
  clear h_1
  refine then_n (wp_seq ?_)
  refine rg_ h_2 [[0],[0,1]] [K_ (vW v), none] (fun E3 => [(4, vP (pb E1 0) 0)]) (S := [⟨0, 1, fun _ => [vI (hi (v)), .int .u64 (lo (v))]⟩]) (M' := fun E3 => [((pb E1 0), 66, [vI (hi (v)), .int .u64 (lo (v))]), ((pb E2 8), 66, [vI (hi (v)), .int .u64 (lo (v))])]) (hs := c_ (ld_ 1 (hrd := by exact rd66 rfl rfl)) <| c_ (se_ 0 (hst := by exact fun _ _ _ hc => st66 rfl rfl rfl hc)) <| e_) (k := fun E3 ac wd h_3 => ?_)
  clear h_2
  refine then_n (wp_ret ?_)
  have s4 := h_3.g (t := 4) rfl
  have hc4 := (h_3.st.own 0 _ rfl).2
  have c4_0 := own_cell (o := 0) hc4 rfl
  have c4_1 := own_cell (o := 1) hc4 rfl
  refine leave (v := vW v) h_3.df (by simp [results, Try.results105, go_sem, Array.getD_eq_getD_getElem?, s4, c4_0, c4_1, Try.underlying66]) ?_
  exact ⟨rfl, h_3.st.below⟩
theorem times_any (a b : Int) (ha : In64 a) (hb : In64 b) : Ret 105 #[vI a, vI b] (vW (a * b)) := by
  have h := mul_64 ha hb
  have := times_core a b _ _ (of_any a ha.1 ha.2) (of_any b hb.1 hb.2) (wmul_any a b (by unfold In64 at ha; unfold InW; omega) (by unfold In64 at hb; unfold InW; omega))
  rw [(fit_yes h).1] at this
  exact this
set_option maxRecDepth 100000 in
set_option maxHeartbeats 8000000 in
theorem plus_core (a b v e : Int) (HM : Ret 119 #[vW a, vW b] (vT2 (vW v) (vI e))) : Ret 106 #[vW a, vW b] (vW v) := by
  intro w0
  have hst := St.start w0 (Θ := fun _ => True) (fun _ _ => trivial)
  refine enter Try.func106 rfl (n := 14) rfl (Nat.le_of_ble_eq_true rfl) hst (L := [(0, vW a), (1, vW b)]) (lk_args rfl) (fun ac h => ?_)
  refine wp_seq ?_
  refine rg_ h [[0],[1],[2]] [KE_ fun env => vP (pb env 0) 0, KE_ fun env => vP (pb env 1) 0, KE_ fun env => vP (pb env 2) 0] (fun E1 => [(2, vP (pb E1 0) 0), (3, vP (pb E1 1) 0), (4, vP (pb E1 2) 0)]) (W := [{ i := 0, T := 66, c0 := [vI (hi (a)), .int .u64 (lo (a))] }, { i := 1, T := 66, c0 := [vI (hi (b)), .int .u64 (lo (b))] }, { i := 2, T := 66, c0 := [vI 0, .int .u64 0] }]) (M' := fun E1 => [((pb E1 0), 66, [vI (hi (a)), .int .u64 (lo (a))]), ((pb E1 1), 66, [vI (hi (b)), .int .u64 (lo (b))]), ((pb E1 2), 66, [vI 0, .int .u64 0])]) (hs := c_ (bx0 0 (vW a)) <| c_ (bx0 1 (vW b)) <| c_ (al_ 2) <| e_) (k := fun E1 ac wd h_1 => ?_)
  clear h
  refine then_n (wp_seq ?_)
  refine rg_ h_1 [[0],[1],[0,1,2],r_ 4,r_ 5,[0,1,2,3,5],[6],[0,1,2,3,4,6,7],r_ 9] [K_ (vW a), K_ (vW b), K_ (vT2 (vW v) (vI e)), K_ (vT2 (vW v) (vI e)), K_ (vW v), K_ (vI e), KE_ fun env => vP (pb env 6) 0, none, K_ (vI e)] (fun E2 => [(4, vP (pb E1 2) 0), (5, vP (pb E2 6) 0)]) (W := [{ i := 6, T := 66, c0 := [vI 0, .int .u64 0], s := some 7, c1 := fun _ => [vI (hi (v)), .int .u64 (lo (v))] }]) (M' := fun E2 => [((pb E1 0), 66, [vI (hi (a)), .int .u64 (lo (a))]), ((pb E1 1), 66, [vI (hi (b)), .int .u64 (lo (b))]), ((pb E1 2), 66, [vI 0, .int .u64 0]), ((pb E2 6), 66, [vI (hi (v)), .int .u64 (lo (v))])]) (hs := c_ (ld_ 0 (hrd := by exact rd66 rfl rfl)) <| c_ (ld_ 1 (hrd := by exact rd66 rfl rfl)) <| c_ (cl_ Try.func119 (h := fun env => ⟨_, HM, rfl⟩)) <| c_ mv_ <| c_ ext_ <| c_ ext_ <| c_ (al_ 3) <| c_ (sw_ 3 6 (hst := by exact fun _ _ _ hc => st66 rfl rfl rfl hc)) <| c_ mv_ <| e_) (k := fun E2 ac wd h_2 => ?_)
  clear h_1
  refine then_n (wp_seq ?_)
  refine rg_ h_2 [[0],[0,1]] [K_ (vW v), none] (fun E3 => [(4, vP (pb E1 2) 0)]) (S := [⟨2, 1, fun _ => [vI (hi (v)), .int .u64 (lo (v))]⟩]) (M' := fun E3 => [((pb E1 0), 66, [vI (hi (a)), .int .u64 (lo (a))]), ((pb E1 1), 66, [vI (hi (b)), .int .u64 (lo (b))]), ((pb E1 2), 66, [vI (hi (v)), .int .u64 (lo (v))]), ((pb E2 6), 66, [vI (hi (v)), .int .u64 (lo (v))])]) (hs := c_ (ld_ 3 (hrd := by exact rd66 rfl rfl)) <| c_ (se_ 2 (hst := by exact fun _ _ _ hc => st66 rfl rfl rfl hc)) <| e_) (k := fun E3 ac wd h_3 => ?_)
  clear h_2
  refine then_n (wp_ret ?_)
  have s4 := h_3.g (t := 4) rfl
  have hc4 := (h_3.st.own 2 _ rfl).2
  have c4_0 := own_cell (o := 0) hc4 rfl
  have c4_1 := own_cell (o := 1) hc4 rfl
  refine leave (v := vW v) h_3.df (by simp [results, Try.results106, go_sem, Array.getD_eq_getD_getElem?, s4, c4_0, c4_1, Try.underlying66]) ?_
  exact ⟨rfl, h_3.st.below⟩
theorem plus_any (a b : Int) (ha : InW a) (hb : InW b) (h : InW (a + b)) : Ret 106 #[vW a, vW b] (vW (a + b)) := by
  have := plus_core a b _ _ (wadd_any a b ha hb)
  rw [(fit_yes h).1] at this
  exact this
set_option maxRecDepth 100000 in
set_option maxHeartbeats 8000000 in
theorem less_core (a b v e : Int) (HM : Ret 131 #[vW a, vW b] (vT2 (vW v) (vI e))) : Ret 108 #[vW a, vW b] (vW v) := by
  intro w0
  have hst := St.start w0 (Θ := fun _ => True) (fun _ _ => trivial)
  refine enter Try.func108 rfl (n := 14) rfl (Nat.le_of_ble_eq_true rfl) hst (L := [(0, vW a), (1, vW b)]) (lk_args rfl) (fun ac h => ?_)
  refine wp_seq ?_
  refine rg_ h [[0],[1],[2]] [KE_ fun env => vP (pb env 0) 0, KE_ fun env => vP (pb env 1) 0, KE_ fun env => vP (pb env 2) 0] (fun E1 => [(2, vP (pb E1 0) 0), (3, vP (pb E1 1) 0), (4, vP (pb E1 2) 0)]) (W := [{ i := 0, T := 66, c0 := [vI (hi (a)), .int .u64 (lo (a))] }, { i := 1, T := 66, c0 := [vI (hi (b)), .int .u64 (lo (b))] }, { i := 2, T := 66, c0 := [vI 0, .int .u64 0] }]) (M' := fun E1 => [((pb E1 0), 66, [vI (hi (a)), .int .u64 (lo (a))]), ((pb E1 1), 66, [vI (hi (b)), .int .u64 (lo (b))]), ((pb E1 2), 66, [vI 0, .int .u64 0])]) (hs := c_ (bx0 0 (vW a)) <| c_ (bx0 1 (vW b)) <| c_ (al_ 2) <| e_) (k := fun E1 ac wd h_1 => ?_)
  clear h
  refine then_n (wp_seq ?_)
  refine rg_ h_1 [[0],[1],[0,1,2],r_ 4,r_ 5,[0,1,2,3,5],[6],[0,1,2,3,4,6,7],r_ 9] [K_ (vW a), K_ (vW b), K_ (vT2 (vW v) (vI e)), K_ (vT2 (vW v) (vI e)), K_ (vW v), K_ (vI e), KE_ fun env => vP (pb env 6) 0, none, K_ (vI e)] (fun E2 => [(4, vP (pb E1 2) 0), (5, vP (pb E2 6) 0)]) (W := [{ i := 6, T := 66, c0 := [vI 0, .int .u64 0], s := some 7, c1 := fun _ => [vI (hi (v)), .int .u64 (lo (v))] }]) (M' := fun E2 => [((pb E1 0), 66, [vI (hi (a)), .int .u64 (lo (a))]), ((pb E1 1), 66, [vI (hi (b)), .int .u64 (lo (b))]), ((pb E1 2), 66, [vI 0, .int .u64 0]), ((pb E2 6), 66, [vI (hi (v)), .int .u64 (lo (v))])]) (hs := c_ (ld_ 0 (hrd := by exact rd66 rfl rfl)) <| c_ (ld_ 1 (hrd := by exact rd66 rfl rfl)) <| c_ (cl_ Try.func131 (h := fun env => ⟨_, HM, rfl⟩)) <| c_ mv_ <| c_ ext_ <| c_ ext_ <| c_ (al_ 3) <| c_ (sw_ 3 6 (hst := by exact fun _ _ _ hc => st66 rfl rfl rfl hc)) <| c_ mv_ <| e_) (k := fun E2 ac wd h_2 => ?_)
  clear h_1
  refine then_n (wp_seq ?_)
  refine rg_ h_2 [[0],[0,1]] [K_ (vW v), none] (fun E3 => [(4, vP (pb E1 2) 0)]) (S := [⟨2, 1, fun _ => [vI (hi (v)), .int .u64 (lo (v))]⟩]) (M' := fun E3 => [((pb E1 0), 66, [vI (hi (a)), .int .u64 (lo (a))]), ((pb E1 1), 66, [vI (hi (b)), .int .u64 (lo (b))]), ((pb E1 2), 66, [vI (hi (v)), .int .u64 (lo (v))]), ((pb E2 6), 66, [vI (hi (v)), .int .u64 (lo (v))])]) (hs := c_ (ld_ 3 (hrd := by exact rd66 rfl rfl)) <| c_ (se_ 2 (hst := by exact fun _ _ _ hc => st66 rfl rfl rfl hc)) <| e_) (k := fun E3 ac wd h_3 => ?_)
  clear h_2
  refine then_n (wp_ret ?_)
  have s4 := h_3.g (t := 4) rfl
  have hc4 := (h_3.st.own 2 _ rfl).2
  have c4_0 := own_cell (o := 0) hc4 rfl
  have c4_1 := own_cell (o := 1) hc4 rfl
  refine leave (v := vW v) h_3.df (by simp [results, Try.results108, go_sem, Array.getD_eq_getD_getElem?, s4, c4_0, c4_1, Try.underlying66]) ?_
  exact ⟨rfl, h_3.st.below⟩
theorem less_any (a b : Int) (ha : InW a) (hb : InW b) (h : InW (a - b)) : Ret 108 #[vW a, vW b] (vW (a - b)) := by
  have := less_core a b _ _ (wsub_any a b ha hb)
  rw [(fit_yes h).1] at this
  exact this
set_option maxRecDepth 100000 in
set_option maxHeartbeats 8000000 in
theorem count_core (d s x : Int) (hd : -1099511627777 ≤ d) (hd1 : d ≤ 1099511627777) (hs : -1000000 ≤ s) (hs1 : s ≤ 1000000) (hx : 0 ≤ x) (hx1 : x < 1000000000000000000) : Ret 71 #[vL d s x] (vW ((d * 86400 + s) * 1000000000000000000 + x)) := by
  intro w0
  have hst := St.start w0 (Θ := fun _ => True) (fun _ _ => trivial)
  refine enter Try.func71 rfl (n := 14) rfl (Nat.le_of_ble_eq_true rfl) hst (L := [(0, vL d s x)]) (lk_args rfl) (fun ac h => ?_)
  refine wp_seq ?_
  refine rg_ h [[0],[1]] [KE_ fun env => vP (pb env 0) 0, KE_ fun env => vP (pb env 1) 0] (fun E1 => [(1, vP (pb E1 0) 0), (2, vP (pb E1 1) 0)]) (W := [{ i := 0, T := 63, c0 := [vI d, vI s, vI x] }, { i := 1, T := 66, c0 := [vI 0, .int .u64 0] }]) (M' := fun E1 => [((pb E1 0), 63, [vI d, vI s, vI x]), ((pb E1 1), 66, [vI 0, .int .u64 0])]) (hs := c_ (bx0 0 (vL d s x)) <| c_ (al_ 1) <| e_) (k := fun E1 ac wd h_1 => ?_)
  clear h
  refine then_n (wp_seq ?_)
  refine rg_ h_1 [[0],[0,1],[0,1,2],[3],[3,4],r_ 6,r_ 7,[7],[7,8],r_ 10,r_ 11,r_ 12] [K_ (vP (pb E1 0) 0), K_ (vI d), K_ (vI (d * 86400)), K_ (vP (pb E1 0) 1), K_ (vI s), K_ (vI ((d * 86400) + s)), K_ (vW ((d * 86400 + s) * 1000000000000000000)), K_ (vP (pb E1 0) 2), K_ (vI x), K_ (vW x), K_ (vW ((d * 86400 + s) * 1000000000000000000 + x)), none] (fun E2 => [(2, vP (pb E1 1) 0)]) (S := [⟨1, 11, fun _ => [vI (hi ((d * 86400 + s) * 1000000000000000000 + x)), .int .u64 (lo ((d * 86400 + s) * 1000000000000000000 + x))]⟩]) (M' := fun E2 => [((pb E1 0), 63, [vI d, vI s, vI x]), ((pb E1 1), 66, [vI (hi ((d * 86400 + s) * 1000000000000000000 + x)), .int .u64 (lo ((d * 86400 + s) * 1000000000000000000 + x))])]) (hs := c_ (fa0 (vP (pb E1 0) 0)) <| c_ (ld_ 0 (hrd := by exact rd3 rfl)) <| c_ (bi0 (vI d) (vI 86400)) <| c_ (fa0 (vP (pb E1 0) 0)) <| c_ (ld_ 0 (hrd := by exact rd3 rfl)) <| c_ (bi0 (vI (d * 86400)) (vI s)) <| c_ (cl_ Try.func105 (h := fun env => ⟨_, (times_any (d * 86400 + s) 1000000000000000000 (by unfold In64; omega) (by unfold In64; omega)), rfl⟩)) <| c_ (fa0 (vP (pb E1 0) 0)) <| c_ (ld_ 0 (hrd := by exact rd3 rfl)) <| c_ (cl_ Try.func93 (h := fun env => ⟨_, (of_any x (by omega) (by omega)), rfl⟩)) <| c_ (cl_ Try.func106 (h := fun env => ⟨_, (plus_any _ x (by unfold InW; omega) (by unfold InW; omega) (by unfold InW; omega)), rfl⟩)) <| c_ (se_ 1 (hst := by exact fun _ _ _ hc => st66 rfl rfl rfl hc)) <| e_) (k := fun E2 ac wd h_2 => ?_)
  clear h_1
  refine then_n (wp_ret ?_)
  have s2 := h_2.g (t := 2) rfl
  have hc2 := (h_2.st.own 1 _ rfl).2
  have c2_0 := own_cell (o := 0) hc2 rfl
  have c2_1 := own_cell (o := 1) hc2 rfl
  refine leave (v := vW ((d * 86400 + s) * 1000000000000000000 + x)) h_2.df (by simp [results, Try.results71, go_sem, Array.getD_eq_getD_getElem?, s2, c2_0, c2_1, Try.underlying66]) ?_
  exact ⟨rfl, h_2.st.below⟩
theorem rcount_any (d s x : Int) (hd : -1099511627777 ≤ d) (hd1 : d ≤ 1099511627777) (hs : -1000000 ≤ s) (hs1 : s ≤ 1000000) (hx : 0 ≤ x) (hx1 : x < 1000000000000000000) : Ret 71 #[vL d s x] (vW (jn d s x)) := count_core d s x hd hd1 hs hs1 hx hx1
set_option maxRecDepth 100000 in
set_option maxHeartbeats 8000000 in
theorem begin_any (d : Int) (hd : -1099511627777 ≤ d) (hd1 : d ≤ 1099511627777) : Ret 70 #[vI d] (vW (jn d 0 0)) := by
  intro w0
  have hst := St.start w0 (Θ := fun _ => True) (fun _ _ => trivial)
  refine enter Try.func70 rfl (n := 6) rfl (Nat.le_of_ble_eq_true rfl) hst (L := [(0, vI d)]) (lk_args rfl) (fun ac h => ?_)
  refine wp_seq ?_
  refine rg_ h [[0]] [KE_ fun env => vP (pb env 0) 0] (fun E1 => [(0, vI d), (2, vP (pb E1 0) 0)]) (W := [{ i := 0, T := 66, c0 := [vI 0, .int .u64 0] }]) (M' := fun E1 => [((pb E1 0), 66, [vI 0, .int .u64 0])]) (hs := c_ (al_ 0) <| e_) (k := fun E1 ac wd h_1 => ?_)
  clear h
  refine then_n (wp_seq ?_)
  refine rg_ h_1 (tri 4) [K_ (vI d), K_ (vL d 0 0), K_ (vW (jn d 0 0)), none] (fun E2 => [(2, vP (pb E1 0) 0)]) (S := [⟨0, 3, fun _ => [vI (hi (jn d 0 0)), .int .u64 (lo (jn d 0 0))]⟩]) (M' := fun E2 => [((pb E1 0), 66, [vI (hi (jn d 0 0)), .int .u64 (lo (jn d 0 0))])]) (hs := c_ mv_ <| c_ (bd0 ([vI d])) <| c_ (cl_ Try.func71 (h := fun env => ⟨_, (rcount_any d 0 0 hd hd1 (by omega) (by omega) (by omega) (by omega)), rfl⟩)) <| c_ (se_ 0 (hst := by exact fun _ _ _ hc => st66 rfl rfl rfl hc)) <| e_) (k := fun E2 ac wd h_2 => ?_)
  clear h_1
  refine then_n (wp_ret ?_)
  have s2 := h_2.g (t := 2) rfl
  have hc2 := (h_2.st.own 0 _ rfl).2
  have c2_0 := own_cell (o := 0) hc2 rfl
  have c2_1 := own_cell (o := 1) hc2 rfl
  refine leave (v := vW (jn d 0 0)) h_2.df (by simp [results, Try.results70, go_sem, Array.getD_eq_getD_getElem?, s2, c2_0, c2_1, Try.underlying66]) ?_
  exact ⟨rfl, h_2.st.below⟩
def wthn (n l u : Int) : Bool := decide (l ≤ n) && decide (n ≤ u)
set_option maxRecDepth 100000 in
set_option maxHeartbeats 8000000 in
theorem within_core (n l u : Int) : Ret 104 #[vI n, vI l, vI u] (.bool (decide (l ≤ n) && decide (n ≤ u))) := by
  intro w0
  have hst := St.start w0 (Θ := fun _ => True) (fun _ _ => trivial)
  refine enter Try.func104 rfl (n := 15) rfl (Nat.le_of_ble_eq_true rfl) hst (L := [(0, vI n), (1, vI l), (2, vI u)]) (lk_args rfl) (fun ac h => ?_)
  refine wp_seq ?_
  refine rg_ h [[0]] [K_ bF] (fun E1 => [(0, vI n), (1, vI l), (2, vI u), (6, bF)]) (hs := c_ mv_ <| e_) (k := fun E1 ac wd h_1 => ?_)
  clear h
  refine then_n (wp_seq ?_)
  by_cases h : l ≤ n
  refine rg_ h_1 [[0],[1],[0,1,2],r_ 4,r_ 5,[0,1,2,3,5],r_ 7,r_ 8,r_ 9] [K_ (vI n), K_ (vI l), K_ bT, K_ bT, K_ (vI n), K_ (vI u), K_ (.bool (decide (n ≤ u))), K_ (.bool (decide (n ≤ u))), K_ (.bool (decide (n ≤ u)))] (fun E2 => [(6, .bool (decide (n ≤ u)))]) (hs := c_ mv_ <| c_ mv_ <| c_ (bi0 (vI n) (vI l) (h := by intro env w; simp [go_sem, h])) <| c_ mv_ <| c_ (gm0 (vI n)) <| c_ (gm0 (vI u)) <| c_ (bi0 (vI n) (vI u)) <| c_ (pk0 bT (.bool (decide (n ≤ u))) bF) <| c_ mv_ <| e_) (k := fun E2 ac wd h_2 => ?_)
  clear h_1
  refine then_n (wp_ret ?_)
  have s6 := h_2.g (t := 6) rfl
  refine leave (v := .bool (decide (n ≤ u))) h_2.df (by simp [results, Try.results104, go_sem, Array.getD_eq_getD_getElem?, s6]) ?_
  exact ⟨by simp [h], h_2.st.below⟩
  refine rg_ h_1 [[0],[1],[0,1,2],r_ 4,r_ 5,[0,1,2,3,5],r_ 7,r_ 8,r_ 9] [K_ (vI n), K_ (vI l), K_ bF, K_ bF, K_ undef, K_ undef, K_ undef, K_ bF, K_ bF] (fun E2 => [(6, bF)]) (hs := c_ mv_ <| c_ mv_ <| c_ (bi0 (vI n) (vI l) (h := by intro env w; simp [go_sem, h])) <| c_ mv_ <| c_ off_ <| c_ off_ <| c_ off_ <| c_ (pk0 bF undef bF) <| c_ mv_ <| e_) (k := fun E2 ac wd h_2 => ?_)
  clear h_1
  refine then_n (wp_ret ?_)
  have s6 := h_2.g (t := 6) rfl
  refine leave (v := .bool false) h_2.df (by simp [results, Try.results104, go_sem, Array.getD_eq_getD_getElem?, s6]) ?_
  exact ⟨by simp [h], h_2.st.below⟩
theorem rwithin_any (n l u : Int) : Ret 104 #[vI n, vI l, vI u] (.bool (wthn n l u)) := within_core n l u
def formB (s x : Int) : Bool := wthn s 0 86400 && wthn x 0 999999999999999999
set_option maxRecDepth 100000 in
set_option maxHeartbeats 8000000 in
theorem form_core (d s x : Int) : Ret 79 #[vL d s x] (.bool (wthn s 0 86400 && wthn x 0 999999999999999999)) := by
  intro w0
  have hst := St.start w0 (Θ := fun _ => True) (fun _ _ => trivial)
  refine enter Try.func79 rfl (n := 11) rfl (Nat.le_of_ble_eq_true rfl) hst (L := [(0, vL d s x)]) (lk_args rfl) (fun ac h => ?_)
  refine wp_seq ?_
  refine rg_ h [[0],[1]] [KE_ fun env => vP (pb env 0) 0, K_ bF] (fun E1 => [(1, vP (pb E1 0) 0), (2, bF)]) (W := [{ i := 0, T := 63, c0 := [vI d, vI s, vI x] }]) (M' := fun E1 => [((pb E1 0), 63, [vI d, vI s, vI x])]) (hs := c_ (bx0 0 (vL d s x)) <| c_ mv_ <| e_) (k := fun E1 ac wd h_1 => ?_)
  clear h
  refine then_n (wp_seq ?_)
  cases h : wthn s 0 86400
  refine rg_ h_1 (tri 9) [K_ (vP (pb E1 0) 1), K_ (vI s), K_ bF, K_ bF, K_ undef, K_ undef, K_ undef, K_ bF, K_ bF] (fun E2 => [(2, bF)]) (hs := c_ (fa0 (vP (pb E1 0) 0)) <| c_ (ld_ 0 (hrd := by exact rd3 rfl)) <| c_ (cl_ Try.func104 (h := fun env => ⟨_, ((rwithin_any s 0 86400).eq (congrArg Value.bool h)), rfl⟩)) <| c_ mv_ <| c_ off_ <| c_ off_ <| c_ off_ <| c_ (pk0 bF undef bF) <| c_ mv_ <| e_) (k := fun E2 ac wd h_2 => ?_)
  clear h_1
  refine then_n (wp_ret ?_)
  have s2 := h_2.g (t := 2) rfl
  refine leave (v := .bool false) h_2.df (by simp [results, Try.results79, go_sem, Array.getD_eq_getD_getElem?, s2]) ?_
  exact ⟨by simp [h], h_2.st.below⟩
  refine rg_ h_1 (tri 9) [K_ (vP (pb E1 0) 1), K_ (vI s), K_ bT, K_ bT, K_ (vP (pb E1 0) 2), K_ (vI x), K_ (.bool (wthn x 0 999999999999999999)), K_ (.bool (wthn x 0 999999999999999999)), K_ (.bool (wthn x 0 999999999999999999))] (fun E2 => [(2, .bool (wthn x 0 999999999999999999))]) (hs := c_ (fa0 (vP (pb E1 0) 0)) <| c_ (ld_ 0 (hrd := by exact rd3 rfl)) <| c_ (cl_ Try.func104 (h := fun env => ⟨_, ((rwithin_any s 0 86400).eq (congrArg Value.bool h)), rfl⟩)) <| c_ mv_ <| c_ (fa0 (vP (pb E1 0) 0)) <| c_ (ld_ 0 (hrd := by exact rd3 rfl)) <| c_ (cl_ Try.func104 (h := fun env => ⟨_, (rwithin_any x 0 999999999999999999), rfl⟩)) <| c_ (pk0 bT (.bool (wthn x 0 999999999999999999)) bF) <| c_ mv_ <| e_) (k := fun E2 ac wd h_2 => ?_)
  clear h_1
  refine then_n (wp_ret ?_)
  have s2 := h_2.g (t := 2) rfl
  refine leave (v := .bool (wthn x 0 999999999999999999)) h_2.df (by simp [results, Try.results79, go_sem, Array.getD_eq_getD_getElem?, s2]) ?_
  exact ⟨by simp [h], h_2.st.below⟩
theorem rform_any (d s x : Int) : Ret 79 #[vL d s x] (.bool (formB s x)) := form_core d s x
end Go.Proofs.Ytdbhgeihphjgeaa

/- wide.MulDiv in whole numbers; wide.Div, wide.Int (printed by my walk.py) -/
import Derived.Test.YtdfkghpgekmmlaaL4
import Derived.Test.YtdfkghpgekmmlaaC13
import Derived.Test.YtdfkghpgekmmlaaM0
import Derived.Test.YtdfkghpgekmmlaaM1
import Derived.IntWalk
namespace Go.Proofs.Ytdfkghpgekmmlaa
open Go.RowKit
set_option linter.unusedVariables false
set_option linter.unusedSimpArgs false
attribute [local go_sem] vN bT bF vW vM vL vT2 vT3 vP vI execOp Act.eval evC hi_zero lo_zero Try.underlying3 Try.underlying37 Try.underlying39

theorem div_of {x d q r : Int} (h0 : 0 ≤ r) (h1 : r < d) (e : r + d * q = x) : x / d = q ∧ x % d = r := (Int.ediv_emod_unique (by omega)).2 ⟨e, h0, h1⟩
theorem wmuldiv_over (a b d : Int) (ha : InW a) (hb : InW b) (hd : InW d) (h0 : 0 < d) (hf : ¬ InW (a * b / d)) : Ret 40 #[vW a, vW b, vW d] (vT3 (vW 0) (vW 0) (vI 2)) := by
  have hn := neg_ab a b
  have hP0 : 0 ≤ ab a * ab b := Int.mul_nonneg (ab_in ha).1 (ab_in hb).1
  obtain ⟨P, hP⟩ : ∃ P, P = ab a * ab b := ⟨_, rfl⟩
  obtain ⟨m, hm⟩ : ∃ m, m = mns a b := ⟨_, rfl⟩
  rw [← hP, ← hm] at hn
  rw [← hP] at hP0
  have hV : Ret 57 #[vW d] (.bool true) := fun w => by have := above_any d hd w; rwa [decide_eq_true h0] at this
  have hdm : d % 340282366920938463463374607431768211456 = d := by unfold InW at hd; omega
  have HD : Ret 61 #[vW d] (vM d) := fun w => by have := bits_any d w; rwa [hdm] at this
  have HL := lmul_any (ab a) (ab b) (ab_in ha) (ab_in hb)
  rw [← hP] at HL
  have hMd : InM d := by unfold InW at hd; unfold InM; omega
  by_cases hH : d ≤ P / 340282366920938463463374607431768211456
  · exact md_over a b d (ab a) (ab b) _ _ hV (size_any a ha) (size_any b hb) HL HD (ldiv_no _ _ d (by
      have := ab_in ha; have := ab_in hb
      have h3 : P ≤ 340282366920938463463374607431768211456 * ab b := by rw [hP]; exact Int.mul_le_mul_of_nonneg_right (by unfold InM at *; omega) (by unfold InM at *; omega)
      unfold InM at *; omega) (by unfold InM; omega) hMd hH)
  · have HQ := ldiv_any (P / 340282366920938463463374607431768211456) (P % 340282366920938463463374607431768211456) d (by unfold InW at hd; unfold InM; omega) (by unfold InM; omega) hMd (by omega)
    rw [show P / 340282366920938463463374607431768211456 * 340282366920938463463374607431768211456 + P % 340282366920938463463374607431768211456 = P by omega] at HQ
    have hq := Int.mul_ediv_add_emod P d
    have hr0 := Int.emod_nonneg P (Int.ne_of_gt h0)
    have hr1 := Int.emod_lt_of_pos P h0
    have hnn : 0 ≤ P / d := Int.ediv_nonneg hP0 (by omega)
    have hnM : InM (P / d) := by
      refine ⟨hnn, ?_⟩
      rw [Int.ediv_lt_iff_lt_mul h0]
      have : (P / 340282366920938463463374607431768211456 + 1) * 340282366920938463463374607431768211456 ≤ d * 340282366920938463463374607431768211456 := Int.mul_le_mul_of_nonneg_right (by omega) (by omega)
      rw [Int.mul_comm 340282366920938463463374607431768211456 d]; omega
    obtain ⟨n, hn'⟩ : ∃ n, n = P / d := ⟨_, rfl⟩
    obtain ⟨l, hl'⟩ : ∃ l, l = P % d := ⟨_, rfl⟩
    rw [← hn', ← hl'] at HQ hq
    rw [← hn'] at hnM
    rw [← hl'] at hr0 hr1
    have HS := signed_any n hnM m
    have key : m = false ∨ l = 0 → a * b / d = neg m n := by
      intro h
      cases m with
      | false => simp only [neg] at hn ⊢; exact (div_of hr0 hr1 (by rw [← hn]; simp; omega)).1
      | true =>
        have h : l = 0 := by simpa using h
        subst h
        simp only [neg, if_true] at hn ⊢
        exact (div_of (q := -n) (r := 0) (Int.le_refl _) h0 (by rw [← hn, Int.mul_neg]; omega)).1
    have key2 : m = true → l ≠ 0 → a * b / d = -n - 1 := by
      intro h1 h2
      subst h1
      simp only [neg, if_true] at hn
      exact (div_of (q := -n - 1) (r := d - l) (by omega) (by omega) (by rw [← hn, Int.mul_sub, Int.mul_neg, Int.mul_one]; omega)).1
    have hfe : ∀ z, InW z → fitE z = 0 := fun z hz => (fit_yes hz).2
    refine md_core a b d (ab a) (ab b) _ _ n l (fitV (neg m n)) (fitE (neg m n)) (fitV (fitV (neg m n) - 1)) (fitE (fitV (neg m n) - 1)) (d - l) m (decide (fitV (neg m n) = -170141183460469231731687303715884105728)) (decide (d < l)) (vT3 (vW 0) (vW 0) (vI 2)) hV (size_any a ha) (size_any b hb) HL HD hm.symm HQ HS
      (fun w => by have := from_any l (by unfold InW at hd; unfold InM; omega) w; rwa [show sgn l = l by unfold InW at hd; unfold sgn; split <;> omega] at this) (least_any _ (fitV_in _)) (of_any 1 (by omega) (by omega)) (fun _ _ _ => wsub_any _ 1 (fitV_in _) (by unfold InW; omega))
      (fun w => by have := lsub_any d l hMd (by unfold InW at hd; unfold InM; omega) w; rwa [show (d - l) % 340282366920938463463374607431768211456 = d - l by unfold InW at hd; omega] at this)
      (fun _ _ w => by have := from_any (d - l) (by unfold InW at hd; unfold InM; omega) w; rwa [show sgn (d - l) = d - l by unfold InW at hd; unfold sgn; split <;> omega] at this) (fun h => ?_) (fun h h2 => ?_) (fun _ _ _ _ => rfl) (fun h h1 h2 h3 => ?_)
    · have hni : ¬ InW (neg m n) := fun hi => h (hfe _ hi)
      rw [(fit_no hni).1, (fit_no hni).2]
    · exfalso
      rw [key h2] at hf
      rw [(fit_no hf).2] at h
      omega
    · exfalso
      have hi : InW (neg m n) := by
        rcases Classical.em (InW (neg m n)) with hi | hi
        · exact hi
        · rw [(fit_no hi).2] at h; omega
      rw [(fit_yes hi).1] at h3
      rw [key2 h2 h1] at hf
      subst h2
      simp only [neg, if_true] at hi h3
      have h3 := of_decide_eq_false h3
      unfold InW at hi hf
      omega
theorem wmuldiv_fits (a b d : Int) (ha : InW a) (hb : InW b) (hd : InW d) (h0 : 0 < d) (hf : InW (a * b / d)) : Ret 40 #[vW a, vW b, vW d] (vT3 (vW (a * b / d)) (vW (a * b % d)) (vI 0)) := by
  have hn := neg_ab a b
  have hP0 : 0 ≤ ab a * ab b := Int.mul_nonneg (ab_in ha).1 (ab_in hb).1
  obtain ⟨P, hP⟩ : ∃ P, P = ab a * ab b := ⟨_, rfl⟩
  obtain ⟨m, hm⟩ : ∃ m, m = mns a b := ⟨_, rfl⟩
  rw [← hP, ← hm] at hn
  rw [← hP] at hP0
  have hV : Ret 57 #[vW d] (.bool true) := fun w => by have := above_any d hd w; rwa [decide_eq_true h0] at this
  have hdm : d % 340282366920938463463374607431768211456 = d := by unfold InW at hd; omega
  have HD : Ret 61 #[vW d] (vM d) := fun w => by have := bits_any d w; rwa [hdm] at this
  have HL := lmul_any (ab a) (ab b) (ab_in ha) (ab_in hb)
  rw [← hP] at HL
  have hMd : InM d := by unfold InW at hd; unfold InM; omega
  have hq := Int.mul_ediv_add_emod P d
  have hr0 := Int.emod_nonneg P (Int.ne_of_gt h0)
  have hr1 := Int.emod_lt_of_pos P h0
  have hnn : 0 ≤ P / d := Int.ediv_nonneg hP0 (by omega)
  obtain ⟨n, hn'⟩ : ∃ n, n = P / d := ⟨_, rfl⟩
  obtain ⟨l, hl'⟩ : ∃ l, l = P % d := ⟨_, rfl⟩
  rw [← hn', ← hl'] at hq
  rw [← hn'] at hnn
  rw [← hl'] at hr0 hr1
  have key : m = false ∨ l = 0 → a * b / d = neg m n ∧ a * b % d = l := by
    intro h
    cases m with
    | false => simp only [neg] at hn ⊢; exact div_of hr0 hr1 (by rw [← hn]; simp; omega)
    | true =>
      have h : l = 0 := by simpa using h
      subst h
      simp only [neg, if_true] at hn ⊢
      exact div_of (q := -n) (r := 0) (Int.le_refl _) h0 (by rw [← hn, Int.mul_neg]; omega)
  have key2 : m = true → l ≠ 0 → a * b / d = -n - 1 ∧ a * b % d = d - l := by
    intro h1 h2
    subst h1
    simp only [neg, if_true] at hn
    exact div_of (q := -n - 1) (r := d - l) (by omega) (by omega) (by rw [← hn, Int.mul_sub, Int.mul_neg, Int.mul_one]; omega)
  have hni : InW (neg m n) ∧ n ≤ 170141183460469231731687303715884105728 := by
    by_cases h : m = false ∨ l = 0
    · rw [(key h).1] at hf
      refine ⟨hf, ?_⟩
      unfold neg InW at hf; split at hf <;> omega
    · have h1 : m = true := by cases m with | true => rfl | false => exact absurd (.inl rfl) h
      have h2 : l ≠ 0 := fun e => h (.inr e)
      rw [(key2 h1 h2).1] at hf
      subst h1
      unfold InW at hf ⊢
      simp only [neg, if_true]
      omega
  have hH : P / 340282366920938463463374607431768211456 < d := by
    rw [Int.ediv_lt_iff_lt_mul (by omega)]
    have h1 : d * n ≤ d * 170141183460469231731687303715884105728 := Int.mul_le_mul_of_nonneg_left hni.2 (by omega)
    omega
  have HQ := ldiv_any (P / 340282366920938463463374607431768211456) (P % 340282366920938463463374607431768211456) d (by unfold InW at hd; unfold InM; omega) (by unfold InM; omega) hMd hH
  rw [show P / 340282366920938463463374607431768211456 * 340282366920938463463374607431768211456 + P % 340282366920938463463374607431768211456 = P by omega] at HQ
  rw [← hn', ← hl'] at HQ
  have HS := signed_any n (by unfold InM; omega) m
  rw [(fit_yes hni.1).1, (fit_yes hni.1).2] at HS
  refine md_core a b d (ab a) (ab b) _ _ n l (neg m n) 0 (fitV (neg m n - 1)) (fitE (neg m n - 1)) (d - l) m (decide (neg m n = -170141183460469231731687303715884105728)) (decide (d < l)) (vT3 (vW (a * b / d)) (vW (a * b % d)) (vI 0)) hV (size_any a ha) (size_any b hb) HL HD hm.symm HQ HS
    (fun w => by have := from_any l (by unfold InW at hd; unfold InM; omega) w; rwa [show sgn l = l by unfold InW at hd; unfold sgn; split <;> omega] at this) (least_any _ hni.1) (of_any 1 (by omega) (by omega)) (fun _ _ _ => wsub_any _ 1 hni.1 (by unfold InW; omega))
    (fun w => by have := lsub_any d l hMd (by unfold InW at hd; unfold InM; omega) w; rwa [show (d - l) % 340282366920938463463374607431768211456 = d - l by unfold InW at hd; omega] at this)
    (fun _ _ w => by have := from_any (d - l) (by unfold InW at hd; unfold InM; omega) w; rwa [show sgn (d - l) = d - l by unfold InW at hd; unfold sgn; split <;> omega] at this) (fun h => absurd rfl h) (fun _ h2 => ?_) (fun _ h1 h2 h3 => ?_) (fun _ h1 h2 h3 => ?_)
  · rw [(key h2).1, (key h2).2]
  · exfalso
    rw [(key2 h2 h1).1] at hf
    have h3 := of_decide_eq_true h3
    subst h2
    simp only [neg, if_true] at h3
    unfold InW at hf
    omega
  · rw [(key2 h2 h1).1, (key2 h2 h1).2]
    rw [(key2 h2 h1).1] at hf
    subst h2
    simp only [neg, if_true]
    rw [(fit_yes hf).1]

set_option maxRecDepth 100000 in
set_option maxHeartbeats 8000000 in
theorem wdiv_core (a d q r : Int) (HM : Ret 40 #[vW a, vW 1, vW d] (vT3 (vW q) (vW r) (vI 0))) : Ret 52 #[vW a, vW d] (vT3 (vW q) (vW r) (vI 0)) := by
  intro w0
  have hst := St.start w0 (Θ := fun _ => True) (fun _ _ => trivial)
  refine en_ Try.func52 hst 14 [(0, vW a), (1, vW d)] (fun ac h => ?_)
  refine wp_seq ?_
  refine rg_ h [[0],[1],[2],[3],[4]] [KE_ fun env => vP (pb env 0) 0, KE_ fun env => vP (pb env 1) 0, KE_ fun env => vP (pb env 2) 0, KE_ fun env => vP (pb env 3) 0, K_ (vI 0)] (fun E1 => [(2, vP (pb E1 0) 0), (3, vP (pb E1 1) 0), (4, vP (pb E1 2) 0), (5, vP (pb E1 3) 0), (6, vI 0)]) (W := [{ i := 0, T := 39, c0 := [vI (hi (a)), .int .u64 (lo (a))] }, { i := 1, T := 39, c0 := [vI (hi (d)), .int .u64 (lo (d))] }, { i := 2, T := 39, c0 := [vI 0, .int .u64 0] }, { i := 3, T := 39, c0 := [vI 0, .int .u64 0] }]) (M' := fun E1 => [((pb E1 0), 39, [vI (hi (a)), .int .u64 (lo (a))]), ((pb E1 1), 39, [vI (hi (d)), .int .u64 (lo (d))]), ((pb E1 2), 39, [vI 0, .int .u64 0]), ((pb E1 3), 39, [vI 0, .int .u64 0])]) (hs := c_ (bx0 0 (vW a)) <| c_ (bx0 1 (vW d)) <| c_ (al_ 2) <| c_ (al_ 3) <| c_ mv_ <| e_) (k := fun E1 ac wd h_1 => ?_)
  clear h
  refine then_n (wp_seq ?_)
  refine rg_ h_1 [[0],[1],[2],r_ 4,r_ 5,[0,1,2,3,5],[0,1,2,3,6],r_ 8,r_ 9,r_ 10] [K_ (vW a), K_ (vW 1), K_ (vW d), K_ (vT3 (vW q) (vW r) (vI 0)), K_ (vW q), K_ (vW r), K_ (vI 0), none, none, K_ (vI 0)] (fun E2 => [(4, vP (pb E1 2) 0), (5, vP (pb E1 3) 0), (6, vI 0)]) (S := [⟨2, 7, fun _ => [vI (hi (q)), .int .u64 (lo (q))]⟩, ⟨3, 8, fun _ => [vI (hi (r)), .int .u64 (lo (r))]⟩]) (M' := fun E2 => [((pb E1 0), 39, [vI (hi (a)), .int .u64 (lo (a))]), ((pb E1 1), 39, [vI (hi (d)), .int .u64 (lo (d))]), ((pb E1 2), 39, [vI (hi (q)), .int .u64 (lo (q))]), ((pb E1 3), 39, [vI (hi (r)), .int .u64 (lo (r))])]) (hs := c_ (ld_ 0 (hrd := by exact rd39 rfl rfl)) <| c_ (cl_ Try.func42 (h := fun env => ⟨_, (of_any 1 (by omega) (by omega)), rfl⟩)) <| c_ (ld_ 1 (hrd := by exact rd39 rfl rfl)) <| c_ (cl_ Try.func40 (h := fun env => ⟨_, HM, rfl⟩)) <| c_ ext_ <| c_ ext_ <| c_ ext_ <| c_ (se_ 2 (hst := by exact fun _ _ _ hc => st39 rfl rfl rfl hc)) <| c_ (se_ 3 (hst := by exact fun _ _ _ hc => st39 rfl rfl rfl hc)) <| c_ mv_ <| e_) (k := fun E2 ac wd h_2 => ?_)
  clear h_1
  refine then_n (wp_ret ?_)
  have s4 := h_2.g (t := 4) rfl
  have hc4 := (h_2.st.own 2 _ rfl).2
  have c4_0 := own_cell (o := 0) hc4 rfl
  have c4_1 := own_cell (o := 1) hc4 rfl
  have s5 := h_2.g (t := 5) rfl
  have hc5 := (h_2.st.own 3 _ rfl).2
  have c5_0 := own_cell (o := 0) hc5 rfl
  have c5_1 := own_cell (o := 1) hc5 rfl
  have s6 := h_2.g (t := 6) rfl
  refine leave (v := vT3 (vW q) (vW r) (vI 0)) h_2.df (by simp [results, Try.results52, go_sem, Array.getD_eq_getD_getElem?, s4, c4_0, c4_1, Try.underlying39, s5, c5_0, c5_1, Try.underlying39, s6]) ?_
  exact ⟨rfl, h_2.st.below⟩
theorem wdiv_any (a d : Int) (ha : InW a) (hd : InW d) (h0 : 0 < d) : Ret 52 #[vW a, vW d] (vT3 (vW (a / d)) (vW (a % d)) (vI 0)) := by
  have hf : InW (a * 1 / d) := by
    rw [Int.mul_one]
    unfold InW at *
    constructor
    · exact Int.le_ediv_of_mul_le h0 (by
        have : -170141183460469231731687303715884105728 * d ≤ -170141183460469231731687303715884105728 * 1 := Int.mul_le_mul_of_nonpos_left (by omega) (by omega)
        omega)
    · rcases Int.lt_or_le a 0 with h | h
      · have := Int.ediv_neg_of_neg_of_pos h h0; omega
      · have := Int.ediv_le_self d h; omega
  have := wdiv_core a d _ _ (wmuldiv_fits a 1 d ha (by unfold InW; omega) hd h0 hf)
  rw [Int.mul_one] at this
  exact this

set_option maxRecDepth 100000 in
set_option maxHeartbeats 8000000 in
theorem wint_yes (z : Int) (h0 : -9223372036854775808 ≤ z) (h1 : z < 9223372036854775808) : Ret 53 #[vW z] (vT2 (vI z) (vI 0)) := by
  have hn : IntKind.i64.wrap (lo z) = z := by rw [IntKind.wrap_i64]; unfold lo; omega
  intro w0
  have hst := St.start w0 (Θ := fun _ => True) (fun _ _ => trivial)
  refine en_ Try.func53 hst 13 [(0, vW z)] (fun ac h => ?_)
  refine wp_seq ?_
  refine rg_ h [[0],[1],[1,2]] [KE_ fun env => vP (pb env 0) 0, K_ (vI 0), K_ (vI 0)] (fun E1 => [(1, vP (pb E1 0) 0), (2, vI 0), (3, vI 0)]) (W := [{ i := 0, T := 39, c0 := [vI (hi (z)), .int .u64 (lo (z))] }]) (M' := fun E1 => [((pb E1 0), 39, [vI (hi (z)), .int .u64 (lo (z))])]) (hs := c_ (bx0 0 (vW z)) <| c_ mv_ <| c_ mv_ <| e_) (k := fun E1 ac wd h_1 => ?_)
  clear h
  refine then_n (wp_seq (wp_seq ?_))
  refine rg_ h_1 (tri 4) [K_ (vP (pb E1 0) 1), K_ (.int .u64 (lo (z))), K_ (vI z), K_ (vI z)] (fun E2 => [(1, vP (pb E1 0) 0), (2, vI 0), (3, vI 0), (4, vI z)]) (hs := c_ (fa0 (vP (pb E1 0) 0)) <| c_ (ld_ 0 (hrd := by exact rd37 rfl)) <| c_ (cv0 (.int .u64 (lo (z))) (h := by intro env w; simp [go_sem]; exact hn)) <| c_ mv_ <| e_) (k := fun E2 ac wd h_2 => ?_)
  clear h_1
  refine then_n (wp_seq ?_)
  refine rg_ h_2 [[0],[0,1],[2],r_ 4] [K_ (vI z), K_ (vW z), K_ (vW z), K_ bT] (fun E3 => [(2, vI 0), (3, vI 0), (4, vI z), (11, bT)]) (hs := c_ mv_ <| c_ (cl_ Try.func42 (h := fun env => ⟨_, (of_any z h0 h1), rfl⟩)) <| c_ (ld_ 0 (hrd := by exact rd39 rfl rfl)) <| c_ (bi0 (vW z) (vW z)) <| e_) (k := fun E3 ac wd h_3 => ?_)
  clear h_2
  refine then_n ?_
  refine cT_ h_3 ?_
  refine wp_seq ?_
  refine rg_ h_3 (tri 3) [K_ (vI z), K_ (vI z), K_ (vI 0)] (fun E4 => [(2, vI z), (3, vI 0)]) (hs := c_ mv_ <| c_ mv_ <| c_ mv_ <| e_) (k := fun E4 ac wd h_4 => ?_)
  clear h_3
  refine then_n (wp_ret (then_ret ?_))
  have s2 := h_4.g (t := 2) rfl
  have s3 := h_4.g (t := 3) rfl
  refine leave (v := vT2 (vI z) (vI 0)) h_4.df (by simp [results, Try.results53, go_sem, Array.getD_eq_getD_getElem?, s2, s3]) ?_
  exact ⟨rfl, h_4.st.below⟩
set_option maxRecDepth 100000 in
set_option maxHeartbeats 8000000 in
theorem wint_no (z : Int) (hz : InW z) (h : z < -9223372036854775808 ∨ 9223372036854775808 ≤ z) : Ret 53 #[vW z] (vT2 (vI 0) (vI 2)) := by
  obtain ⟨n, hn⟩ : ∃ n, IntKind.i64.wrap (lo z) = n := ⟨_, rfl⟩
  have hb : -9223372036854775808 ≤ n ∧ n < 9223372036854775808 := by rw [← hn, IntKind.wrap_i64]; omega
  have hc : hi n = hi z → lo n = lo z → False := fun e1 e2 => by have := int_eq_of e1 e2; omega
  intro w0
  have hst := St.start w0 (Θ := fun _ => True) (fun _ _ => trivial)
  refine en_ Try.func53 hst 13 [(0, vW z)] (fun ac h => ?_)
  refine wp_seq ?_
  refine rg_ h [[0],[1],[1,2]] [KE_ fun env => vP (pb env 0) 0, K_ (vI 0), K_ (vI 0)] (fun E1 => [(1, vP (pb E1 0) 0), (2, vI 0), (3, vI 0)]) (W := [{ i := 0, T := 39, c0 := [vI (hi (z)), .int .u64 (lo (z))] }]) (M' := fun E1 => [((pb E1 0), 39, [vI (hi (z)), .int .u64 (lo (z))])]) (hs := c_ (bx0 0 (vW z)) <| c_ mv_ <| c_ mv_ <| e_) (k := fun E1 ac wd h_1 => ?_)
  clear h
  refine then_n (wp_seq (wp_seq ?_))
  refine rg_ h_1 (tri 4) [K_ (vP (pb E1 0) 1), K_ (.int .u64 (lo (z))), K_ (vI n), K_ (vI n)] (fun E2 => [(1, vP (pb E1 0) 0), (2, vI 0), (3, vI 0), (4, vI n)]) (hs := c_ (fa0 (vP (pb E1 0) 0)) <| c_ (ld_ 0 (hrd := by exact rd37 rfl)) <| c_ (cv0 (.int .u64 (lo (z))) (h := by intro env w; simp [go_sem]; exact hn)) <| c_ mv_ <| e_) (k := fun E2 ac wd h_2 => ?_)
  clear h_1
  refine then_n (wp_seq ?_)
  refine rg_ h_2 [[0],[0,1],[2],r_ 4] [K_ (vI n), K_ (vW n), K_ (vW z), K_ bF] (fun E3 => [(2, vI 0), (3, vI 0), (4, vI n), (11, bF)]) (hs := c_ mv_ <| c_ (cl_ Try.func42 (h := fun env => ⟨_, (of_any n hb.1 hb.2), rfl⟩)) <| c_ (ld_ 0 (hrd := by exact rd39 rfl rfl)) <| c_ (bi0 (vW n) (vW z) (h := by intro env w; (first | (simp [go_sem]; done) | (simp [go_sem]; exact hc)))) <| e_) (k := fun E3 ac wd h_3 => ?_)
  clear h_2
  refine then_n ?_
  refine cF_ h_3 ?_
  refine wp_skip (then_n (wp_seq ?_))
  refine rg_ h_3 [[0],[0,1]] [K_ (vI 0), K_ (vI 2)] (fun E4 => [(2, vI 0), (3, vI 2)]) (hs := c_ mv_ <| c_ mv_ <| e_) (k := fun E4 ac wd h_4 => ?_)
  clear h_3
  refine then_n (wp_ret ?_)
  have s2 := h_4.g (t := 2) rfl
  have s3 := h_4.g (t := 3) rfl
  refine leave (v := vT2 (vI 0) (vI 2)) h_4.df (by simp [results, Try.results53, go_sem, Array.getD_eq_getD_getElem?, s2, s3]) ?_
  exact ⟨rfl, h_4.st.below⟩
end Go.Proofs.Ytdfkghpgekmmlaa

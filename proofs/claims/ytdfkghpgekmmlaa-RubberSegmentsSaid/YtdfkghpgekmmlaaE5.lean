/- epactref01: trim, cmp (printed by my walk.py) -/
import Derived.Test.YtdfkghpgekmmlaaL6
import Derived.Test.YtdfkghpgekmmlaaP1
import Derived.Test.YtdfkghpgekmmlaaM0
import Derived.Test.YtdfkghpgekmmlaaM2
import Derived.IntWalk
namespace Go.Proofs.Ytdfkghpgekmmlaa
open Go.RowKit
set_option linter.unusedVariables false
set_option linter.unusedSimpArgs false
attribute [local go_sem] vN bT bF rS vW vM vL vT2 vT3 vP vI execOp Act.eval evC hi_zero lo_zero

theorem Row.le {w : World} {A : Option Addr} {n c : Nat} {ds : List Int} (h : Row w (.slice A n c) ds) : ds.length ≤ 140737488351232 := by obtain ⟨_, _, _, _, h, _⟩ := h; exact h

set_option maxRecDepth 100000 in
set_option maxHeartbeats 8000000 in
theorem trim_core (w0 : World) (A : Option Addr) (c : Nat) (ds : List Int) (hr : Row w0 (.slice A ds.length c) ds) (hg : Rg ds) : Calls Try.prog 54 #[.slice A ds.length c] w0 fun e w' => e = .returned (.slice A (digs (nat ds)).length c) ∧ Below w0.heap.size w0 w' := by
  have hst := St.start w0 (Θ := fun _ => True) (fun _ _ => trivial)
  refine en_ Try.func54 hst 21 [(0, .slice A ds.length c)] (fun ac h => ?_)
  refine wp_seq ?_
  refine rg_ h [[0]] [K_ (.slice none 0 0)] (fun E1 => [(0, .slice A ds.length c), (2, .slice none 0 0)]) (hs := c_ mv_ <| e_) (k := fun E1 ac wd h_1 => ?_)
  clear h
  refine then_n (wp_seq ?_)
  refine rg_ h_1 (tri 3) [K_ (.slice A ds.length c), K_ (vN ds.length), K_ (vN ds.length)] (fun E2 => [(0, .slice A ds.length c), (2, .slice none 0 0), (3, vN ds.length)]) (hs := c_ mv_ <| c_ (ln_ Try.underlying44 fun _ env _ wd hA => (hr.grown hA.j.st.gr).els) <| c_ mv_ <| e_) (k := fun E2 ac wd h_2 => ?_)
  clear h_1
  refine then_n (wp_seq (wp_block ?_))
  refine wp_loop (fun ac wd => ∃ k : Nat, (k ≤ ds.length ∧ trimN ds k = (digs (nat ds)).length) ∧ Cur 21 w0 none none (fun _ => True) (fun _ => True) [(0, .slice A ds.length c), (2, .slice none 0 0), (3, vI ((k : Int)))] [] ac wd) (fun ac _ => (sI ac 3).toNat) ⟨ds.length, ⟨Nat.le_refl _, trim_len hg⟩, (h_2.re rfl).th (fun _ h => h)⟩ ?_
  rintro ac wd ⟨k, ⟨hk, hkt⟩, h_3⟩
  clear h_2
  have hmu : sI ac 3 = (k : Int) := sI_eq (h_3.g (t := 3) rfl)
  refine wp_seq (wp_seq ?_)
  rcases Nat.eq_zero_or_pos k with h0 | h0
  subst h0
  refine rg_ h_3 [[0],[0,1],[0,1,2],r_ 4,[0,1,2,4],[0,1,2,4,5],r_ 7,r_ 8,r_ 9,r_ 10] [K_ (vI ((0 : Int))), K_ bF, K_ bF, K_ undef, K_ undef, K_ undef, K_ undef, K_ undef, K_ undef, K_ bF] (fun E4 => [(0, .slice A ds.length c), (2, .slice none 0 0), (3, vI ((0 : Int))), (6, vI ((0 : Int))), (7, bF), (8, bF), (9, undef), (10, undef), (11, undef), (12, undef), (13, undef), (14, undef), (15, bF)]) (hs := c_ mv_ <| c_ (bi0 (vI ((0 : Int))) (vI 0)) <| c_ mv_ <| c_ off_ <| c_ off_ <| c_ off_ <| c_ off_ <| c_ off_ <| c_ off_ <| c_ (pk0 bF undef bF) <| e_) (k := fun E4 ac wd h_4 => ?_)
  clear h_3
  refine then_n ?_
  refine cF_ h_4 ?_
  refine wp_exit (then_e (then_e (blk_x (then_n (wp_seq ?_)))))
  refine rg_ h_4 [[0],[1],[0,1,2],r_ 4] [K_ (.slice A ds.length c), K_ (vI ((0 : Int))), K_ (.slice A 0 c), K_ (.slice A 0 c)] (fun E5 => [(2, .slice A 0 c)]) (hs := c_ mv_ <| c_ mv_ <| c_ (s_cut rfl rfl rfl (fun _ => wanted_none rfl _) Try.underlying44 sz3 0 (s := fun _ => .slice A ds.length c) rfl (fun _ => rfl) (fun _ => rfl) (fun {D env ac wd} hA => (hr.grown hA.j.st.gr).els) (by omega)) <| c_ mv_ <| e_) (k := fun E5 ac wd h_5 => ?_)
  clear h_4
  refine then_n (wp_ret ?_)
  refine lvT Try.results54 h_5 ?_
  have e1 : trimN ds 0 = 0 := by rfl
  exact ⟨by rw [← hkt, e1], h_5.st.below⟩
  obtain ⟨j, rfl⟩ : ∃ j, k = j + 1 := ⟨k - 1, by omega⟩
  by_cases h2 : ds.getD j 0 = 0
  refine rg_ h_3 [[0],[0,1],[0,1,2],r_ 4,[0,1,2,4],[0,1,2,4,5],r_ 7,r_ 8,r_ 9,r_ 10] [K_ (vI (((j + 1) : Int))), K_ bT, K_ bT, K_ (.slice A ds.length c), K_ (vI (((j + 1) : Int))), K_ (vI ((j : Int))), K_ (elt (.slice A ds.length c) j), K_ (vI (ds.getD j 0)), K_ bT, K_ bT] (fun E4 => [(0, .slice A ds.length c), (2, .slice none 0 0), (3, vI (((j + 1) : Int))), (6, vI (((j + 1) : Int))), (7, bT), (8, bT), (9, .slice A ds.length c), (10, vI (((j + 1) : Int))), (11, vI ((j : Int))), (12, elt (.slice A ds.length c) j), (13, vI (ds.getD j 0)), (14, bT), (15, bT)]) (hs := c_ mv_ <| c_ (bi0 (vI (((j + 1) : Int))) (vI 0)) <| c_ mv_ <| c_ (gm0 (.slice A ds.length c)) <| c_ (gm0 (vI (((j + 1) : Int)))) <| c_ (bi0 (vI (((j + 1) : Int))) (vI 1) (h := by intro env w; (first | (simp [go_sem]; done) | (simp [go_sem]; exact IntWalk.i64_in _ (by omega)) | (have hle := hr.le; simp [go_sem]; exact IntWalk.i64_in _ (by omega))))) <| c_ (ia_ Try.underlying44 sz3 j j (j : Int) (fun _ env _ wd hA => (hr.grown hA.j.st.gr).els) (rfl) (by omega) (Nat.mul_one _)) <| c_ (le_ j (fun _ env _ wd hA => (hr.grown hA.j.st.gr).els) (by omega) (le3 rfl)) <| c_ (bi0 (vI (ds.getD j 0)) (vI 0) (h := by intro env w; have h2q := h2; rw [List.getD_eq_getElem?_getD] at h2q; simp [go_sem, h2q])) <| c_ (pk0 bT bT bF (h := by intro env w; have h2q := h2; rw [List.getD_eq_getElem?_getD] at h2q; simp [go_sem, h2q])) <| e_) (k := fun E4 ac wd h_4 => ?_)
  clear h_3
  refine then_n ?_
  refine cT_ h_4 ?_
  refine wp_skip (then_n (wp_block ?_))
  refine rg_ h_4 (tri 3) [K_ (vI (((j + 1) : Int))), K_ (vI ((j : Int))), K_ (vI ((j : Int)))] (fun E5 => [(0, .slice A ds.length c), (2, .slice none 0 0), (3, vI ((j : Int))), (6, vI (((j + 1) : Int))), (7, bT), (8, bT), (9, .slice A ds.length c), (10, vI (((j + 1) : Int))), (11, vI ((j : Int))), (12, elt (.slice A ds.length c) j), (13, vI (ds.getD j 0)), (14, bT), (15, bT), (16, vI (((j + 1) : Int))), (17, vI ((j : Int)))]) (hs := c_ mv_ <| c_ (bi0 (vI (((j + 1) : Int))) (vI 1) (h := by intro env w; (first | (simp [go_sem]; done) | (simp [go_sem]; exact IntWalk.i64_in _ (by omega)) | (have hle := hr.le; simp [go_sem]; exact IntWalk.i64_in _ (by omega))))) <| c_ mv_ <| e_) (k := fun E5 ac wd h_5 => ?_)
  clear h_4
  refine blk_n (then_n ?_)
  exact ⟨⟨j, ⟨by omega, by rw [← hkt]; simp only [trimN]; rw [if_pos h2]⟩, h_5.re rfl⟩, by rw [sI_eq (h_5.g (t := 3) rfl), hmu]; omega⟩
  refine rg_ h_3 [[0],[0,1],[0,1,2],r_ 4,[0,1,2,4],[0,1,2,4,5],r_ 7,r_ 8,r_ 9,r_ 10] [K_ (vI (((j + 1) : Int))), K_ bT, K_ bT, K_ (.slice A ds.length c), K_ (vI (((j + 1) : Int))), K_ (vI ((j : Int))), K_ (elt (.slice A ds.length c) j), K_ (vI (ds.getD j 0)), K_ bF, K_ bF] (fun E4 => [(0, .slice A ds.length c), (2, .slice none 0 0), (3, vI (((j + 1) : Int))), (6, vI (((j + 1) : Int))), (7, bT), (8, bT), (9, .slice A ds.length c), (10, vI (((j + 1) : Int))), (11, vI ((j : Int))), (12, elt (.slice A ds.length c) j), (13, vI (ds.getD j 0)), (14, bF), (15, bF)]) (hs := c_ mv_ <| c_ (bi0 (vI (((j + 1) : Int))) (vI 0)) <| c_ mv_ <| c_ (gm0 (.slice A ds.length c)) <| c_ (gm0 (vI (((j + 1) : Int)))) <| c_ (bi0 (vI (((j + 1) : Int))) (vI 1) (h := by intro env w; (first | (simp [go_sem]; done) | (simp [go_sem]; exact IntWalk.i64_in _ (by omega)) | (have hle := hr.le; simp [go_sem]; exact IntWalk.i64_in _ (by omega))))) <| c_ (ia_ Try.underlying44 sz3 j j (j : Int) (fun _ env _ wd hA => (hr.grown hA.j.st.gr).els) (rfl) (by omega) (Nat.mul_one _)) <| c_ (le_ j (fun _ env _ wd hA => (hr.grown hA.j.st.gr).els) (by omega) (le3 rfl)) <| c_ (bi0 (vI (ds.getD j 0)) (vI 0) (h := by intro env w; have h2q := h2; rw [List.getD_eq_getElem?_getD] at h2q; simp [go_sem, h2q])) <| c_ (pk0 bT bF bF (h := by intro env w; have h2q := h2; rw [List.getD_eq_getElem?_getD] at h2q; simp [go_sem, h2q])) <| e_) (k := fun E4 ac wd h_4 => ?_)
  clear h_3
  refine then_n ?_
  refine cF_ h_4 ?_
  refine wp_exit (then_e (then_e (blk_x (then_n (wp_seq ?_)))))
  refine rg_ h_4 [[0],[1],[0,1,2],r_ 4] [K_ (.slice A ds.length c), K_ (vI (((j + 1) : Int))), K_ (.slice A ((j + 1)) c), K_ (.slice A ((j + 1)) c)] (fun E5 => [(2, .slice A ((j + 1)) c)]) (hs := c_ mv_ <| c_ mv_ <| c_ (s_cut rfl rfl rfl (fun _ => wanted_none rfl _) Try.underlying44 sz3 (j + 1) (s := fun _ => .slice A ds.length c) rfl (fun _ => rfl) (fun _ => rfl) (fun {D env ac wd} hA => (hr.grown hA.j.st.gr).els) (by omega)) <| c_ mv_ <| e_) (k := fun E5 ac wd h_5 => ?_)
  clear h_4
  refine then_n (wp_ret ?_)
  refine lvT Try.results54 h_5 ?_
  have e1 : trimN ds (j + 1) = (j + 1) := by simp only [trimN]; rw [if_neg h2]
  exact ⟨by rw [← hkt, e1], h_5.st.below⟩
theorem Row.trim {w : World} {A : Option Addr} {c : Nat} {ds : List Int} (hg : Rg ds) (h : Row w (.slice A ds.length c) ds) : Row w (.slice A (digs (nat ds)).length c) (digs (nat ds)) := by
  have := h.cut (digs_len_nat hg)
  rwa [digs_take' hg] at this
set_option maxRecDepth 100000 in
set_option maxHeartbeats 8000000 in
theorem cmp_any (w0 : World) (A B : Option Addr) (c k : Nat) (x y : Int) (hx : 0 ≤ x) (hy : 0 ≤ y) (hr : Row w0 (.slice A (digs x).length c) (digs x)) (hr2 : Row w0 (.slice B (digs y).length k) (digs y)) : Calls Try.prog 46 #[.slice A ((digs x).length) c, .slice B ((digs y).length) k] w0 fun e w' => e = .returned (vI (cmpZ x y)) ∧ Below w0.heap.size w0 w' := by
  have hst := St.start w0 (Θ := fun _ => True) (fun _ _ => trivial)
  refine en_ Try.func46 hst 41 [(0, .slice A ((digs x).length) c), (1, .slice B ((digs y).length) k)] (fun ac h => ?_)
  refine wp_seq ?_
  refine rg_ h [[0]] [K_ (vI 0)] (fun E1 => [(0, rS x A c), (1, rS y B k), (4, vI 0)]) (hs := c_ mv_ <| e_) (k := fun E1 ac wd h_1 => ?_)
  clear h
  refine then_n (wp_seq (wp_seq ?_))
  rcases Nat.lt_trichotomy (digs x).length (digs y).length with h | h | h
  refine rg_ h_1 [[0],[0,1],[2],[2,3],r_ 5] [K_ (rS x A c), K_ (vN ((digs x).length)), K_ (rS y B k), K_ (vN ((digs y).length)), K_ bT] (fun E2 => [(0, rS x A c), (1, rS y B k), (4, vI 0), (10, bT)]) (hs := c_ mv_ <| c_ (ln_ Try.underlying44 fun _ env _ wd hA => (hr.grown hA.j.st.gr).els) <| c_ mv_ <| c_ (ln_ Try.underlying44 fun _ env _ wd hA => (hr2.grown hA.j.st.gr).els) <| c_ (bi0 (vN ((digs x).length)) (vN ((digs y).length))) <| e_) (k := fun E2 ac wd h_2 => ?_)
  clear h_1
  refine then_n ?_
  refine cT_ h_2 ?_
  refine wp_seq (wp_seq ?_)
  refine rg_ h_2 [[0],[0,1],[2],[2,3],r_ 5] [K_ (rS x A c), K_ (vN ((digs x).length)), K_ (rS y B k), K_ (vN ((digs y).length)), K_ bT] (fun E3 => [(0, rS x A c), (1, rS y B k), (4, vI 0), (15, bT)]) (hs := c_ mv_ <| c_ (ln_ Try.underlying44 fun _ env _ wd hA => (hr.grown hA.j.st.gr).els) <| c_ mv_ <| c_ (ln_ Try.underlying44 fun _ env _ wd hA => (hr2.grown hA.j.st.gr).els) <| c_ (bi0 (vN ((digs x).length)) (vN ((digs y).length))) <| e_) (k := fun E3 ac wd h_3 => ?_)
  clear h_2
  refine then_n ?_
  refine cT_ h_3 ?_
  refine wp_seq ?_
  refine rg_ h_3 [[0]] [K_ (vI (-1))] (fun E4 => [(0, rS x A c), (1, rS y B k), (4, vI (-1))]) (hs := c_ mv_ <| e_) (k := fun E4 ac wd h_4 => ?_)
  clear h_3
  refine then_n (wp_ret (then_ret (then_ret ?_)))
  refine lvT Try.results46 h_4 ?_
  exact ⟨by rw [cmp_len_lt hx hy h], h_4.st.below⟩
  refine rg_ h_1 [[0],[0,1],[2],[2,3],r_ 5] [K_ (rS x A c), K_ (vN ((digs x).length)), K_ (rS y B k), K_ (vN ((digs y).length)), K_ bF] (fun E2 => [(0, rS x A c), (1, rS y B k), (4, vI 0), (10, bF)]) (hs := c_ mv_ <| c_ (ln_ Try.underlying44 fun _ env _ wd hA => (hr.grown hA.j.st.gr).els) <| c_ mv_ <| c_ (ln_ Try.underlying44 fun _ env _ wd hA => (hr2.grown hA.j.st.gr).els) <| c_ (bi0 (vN ((digs x).length)) (vN ((digs y).length))) <| e_) (k := fun E2 ac wd h_2 => ?_)
  clear h_1
  refine then_n ?_
  refine cF_ h_2 ?_
  refine wp_skip (then_n (wp_seq (wp_seq ?_)))
  refine rg_ h_2 (tri 4) [K_ (rS x A c), K_ (vN ((digs x).length)), K_ (vI ((((digs x).length : Nat) : Int) - 1)), K_ (vI ((((digs x).length : Nat) : Int) - 1))] (fun E3 => [(0, rS x A c), (1, rS y B k), (4, vI 0), (5, vI ((((digs x).length : Nat) : Int) - 1))]) (hs := c_ mv_ <| c_ (ln_ Try.underlying44 fun _ env _ wd hA => (hr.grown hA.j.st.gr).els) <| c_ (bi0 (vN ((digs x).length)) (vI 1) (h := by intro env w; (first | (simp [go_sem]; done) | (simp [go_sem]; exact IntWalk.i64_in _ (by omega)) | (have hle := hr.le; have hle2 := hr2.le; simp [go_sem]; exact IntWalk.i64_in _ (by omega))))) <| c_ mv_ <| e_) (k := fun E3 ac wd h_3 => ?_)
  clear h_2
  refine then_n (wp_block ?_)
  refine wp_loop (fun ac wd => ∃ m : Nat, (m ≤ (digs x).length ∧ (digs x).drop m = (digs y).drop m) ∧ Cur 41 w0 none none (fun _ => True) (fun _ => True) [(0, rS x A c), (1, rS y B k), (5, vI (((m : Nat) : Int) - 1))] [] ac wd) (fun ac _ => (sI ac 5 + 1).toNat) ⟨(digs x).length, ⟨Nat.le_refl _, by rw [List.drop_of_length_le (Nat.le_refl _), List.drop_of_length_le (by omega)]⟩, (h_3.re rfl).th (fun _ h => h)⟩ ?_
  rintro ac wd ⟨m, ⟨hm, hdr⟩, h_4⟩
  clear h_3
  have hmu : sI ac 5 = ((m : Nat) : Int) - 1 := sI_eq (h_4.g (t := 5) rfl)
  refine wp_seq (wp_seq ?_)
  rcases Nat.eq_zero_or_pos m with h0 | h0
  subst h0
  refine rg_ h_4 [[0],[0,1]] [K_ (vI (((0 : Nat) : Int) - 1)), K_ bF] (fun E5 => [(0, rS x A c), (1, rS y B k), (5, vI (((0 : Nat) : Int) - 1)), (19, vI (((0 : Nat) : Int) - 1)), (20, bF)]) (hs := c_ mv_ <| c_ (bi0 (vI (((0 : Nat) : Int) - 1)) (vI 0)) <| e_) (k := fun E5 ac wd h_5 => ?_)
  clear h_4
  refine then_n ?_
  refine cF_ h_5 ?_
  refine wp_exit (then_e (then_e (blk_x (then_n (wp_seq ?_)))))
  refine rg_ h_5 [[0]] [K_ (vI 0)] (fun E6 => [(4, vI 0)]) (hs := c_ mv_ <| e_) (k := fun E6 ac wd h_6 => ?_)
  clear h_5
  refine then_n (wp_ret ?_)
  refine lvT Try.results46 h_6 ?_
  exact ⟨by rw [cmp_eq hx hy (by simpa using hdr)], h_6.st.below⟩
  obtain ⟨j, rfl⟩ : ∃ j, m = j + 1 := ⟨m - 1, by omega⟩
  refine rg_ h_4 [[0],[0,1]] [K_ (vI ((((j + 1) : Nat) : Int) - 1)), K_ bT] (fun E5 => [(0, rS x A c), (1, rS y B k), (5, vI ((((j + 1) : Nat) : Int) - 1)), (19, vI ((((j + 1) : Nat) : Int) - 1)), (20, bT)]) (hs := c_ mv_ <| c_ (bi0 (vI ((((j + 1) : Nat) : Int) - 1)) (vI 0)) <| e_) (k := fun E5 ac wd h_5 => ?_)
  clear h_4
  refine then_n ?_
  refine cT_ h_5 ?_
  refine wp_skip (then_n (wp_seq (wp_block (wp_seq (wp_seq ?_)))))
  by_cases h2 : (digs x).getD j 0 < (digs y).getD j 0
  refine rg_ h_5 [[0],[1],[0,1,2],r_ 4,[4],[5],[4,5,6],[4,5,6,7],r_ 9] [K_ (rS x A c), K_ (vI ((((j + 1) : Nat) : Int) - 1)), K_ (elt (rS x A c) j), K_ (vI (((digs x)).getD j 0)), K_ (rS y B k), K_ (vI ((((j + 1) : Nat) : Int) - 1)), K_ (elt (rS y B k) j), K_ (vI (((digs y)).getD j 0)), K_ bT] (fun E6 => [(0, rS x A c), (1, rS y B k), (5, vI ((((j + 1) : Nat) : Int) - 1)), (19, vI ((((j + 1) : Nat) : Int) - 1)), (20, bT), (23, rS x A c), (24, vI ((((j + 1) : Nat) : Int) - 1)), (25, elt (rS x A c) j), (26, vI (((digs x)).getD j 0)), (27, rS y B k), (28, vI ((((j + 1) : Nat) : Int) - 1)), (29, elt (rS y B k) j), (30, vI (((digs y)).getD j 0)), (31, bT)]) (hs := c_ mv_ <| c_ mv_ <| c_ (ia_ Try.underlying44 sz3 j j ((((j + 1) : Nat) : Int) - 1) (fun _ env _ wd hA => (hr.grown hA.j.st.gr).els) (by omega) (by omega) (Nat.mul_one _)) <| c_ (le_ j (fun _ env _ wd hA => (hr.grown hA.j.st.gr).els) (by omega) (le3 rfl)) <| c_ mv_ <| c_ mv_ <| c_ (ia_ Try.underlying44 sz3 j j ((((j + 1) : Nat) : Int) - 1) (fun _ env _ wd hA => (hr2.grown hA.j.st.gr).els) (by omega) (by omega) (Nat.mul_one _)) <| c_ (le_ j (fun _ env _ wd hA => (hr2.grown hA.j.st.gr).els) (by omega) (le3 rfl)) <| c_ (bi0 (vI (((digs x)).getD j 0)) (vI (((digs y)).getD j 0)) (h := by intro env w; have q0 := h2; simp only [List.getD_eq_getElem?_getD] at q0; simp [go_sem, q0])) <| e_) (k := fun E6 ac wd h_6 => ?_)
  clear h_5
  refine then_n ?_
  refine cT_ h_6 ?_
  refine wp_seq ?_
  refine rg_ h_6 [[0]] [K_ (vI (-1))] (fun E7 => [(0, rS x A c), (1, rS y B k), (4, vI (-1)), (5, vI ((((j + 1) : Nat) : Int) - 1)), (19, vI ((((j + 1) : Nat) : Int) - 1)), (20, bT), (23, rS x A c), (24, vI ((((j + 1) : Nat) : Int) - 1)), (25, elt (rS x A c) j), (26, vI (((digs x)).getD j 0)), (27, rS y B k), (28, vI ((((j + 1) : Nat) : Int) - 1)), (29, elt (rS y B k) j), (30, vI (((digs y)).getD j 0)), (31, bT)]) (hs := c_ mv_ <| e_) (k := fun E7 ac wd h_7 => ?_)
  clear h_6
  refine then_n (wp_ret (then_ret (blk_ret (then_ret (then_ret (blk_ret (then_ret ?_)))))))
  refine lvT Try.results46 h_7 ?_
  exact ⟨by rw [dcmp_lt hx hy h (i := j) (by omega) hdr h2], h_7.st.below⟩
  refine rg_ h_5 [[0],[1],[0,1,2],r_ 4,[4],[5],[4,5,6],[4,5,6,7],r_ 9] [K_ (rS x A c), K_ (vI ((((j + 1) : Nat) : Int) - 1)), K_ (elt (rS x A c) j), K_ (vI (((digs x)).getD j 0)), K_ (rS y B k), K_ (vI ((((j + 1) : Nat) : Int) - 1)), K_ (elt (rS y B k) j), K_ (vI (((digs y)).getD j 0)), K_ bF] (fun E6 => [(0, rS x A c), (1, rS y B k), (5, vI ((((j + 1) : Nat) : Int) - 1)), (19, vI ((((j + 1) : Nat) : Int) - 1)), (20, bT), (23, rS x A c), (24, vI ((((j + 1) : Nat) : Int) - 1)), (25, elt (rS x A c) j), (26, vI (((digs x)).getD j 0)), (27, rS y B k), (28, vI ((((j + 1) : Nat) : Int) - 1)), (29, elt (rS y B k) j), (30, vI (((digs y)).getD j 0)), (31, bF)]) (hs := c_ mv_ <| c_ mv_ <| c_ (ia_ Try.underlying44 sz3 j j ((((j + 1) : Nat) : Int) - 1) (fun _ env _ wd hA => (hr.grown hA.j.st.gr).els) (by omega) (by omega) (Nat.mul_one _)) <| c_ (le_ j (fun _ env _ wd hA => (hr.grown hA.j.st.gr).els) (by omega) (le3 rfl)) <| c_ mv_ <| c_ mv_ <| c_ (ia_ Try.underlying44 sz3 j j ((((j + 1) : Nat) : Int) - 1) (fun _ env _ wd hA => (hr2.grown hA.j.st.gr).els) (by omega) (by omega) (Nat.mul_one _)) <| c_ (le_ j (fun _ env _ wd hA => (hr2.grown hA.j.st.gr).els) (by omega) (le3 rfl)) <| c_ (bi0 (vI (((digs x)).getD j 0)) (vI (((digs y)).getD j 0)) (h := by intro env w; have q0 := h2; simp only [List.getD_eq_getElem?_getD] at q0; simp [go_sem, q0])) <| e_) (k := fun E6 ac wd h_6 => ?_)
  clear h_5
  refine then_n ?_
  refine cF_ h_6 ?_
  refine wp_skip (then_n (wp_seq ?_))
  by_cases h3 : (digs y).getD j 0 < (digs x).getD j 0
  refine rg_ h_6 [[0],[1],[0,1,2],r_ 4,[4],[5],[4,5,6],[4,5,6,7],r_ 9] [K_ (rS x A c), K_ (vI ((((j + 1) : Nat) : Int) - 1)), K_ (elt (rS x A c) j), K_ (vI (((digs x)).getD j 0)), K_ (rS y B k), K_ (vI ((((j + 1) : Nat) : Int) - 1)), K_ (elt (rS y B k) j), K_ (vI (((digs y)).getD j 0)), K_ bT] (fun E7 => [(0, rS x A c), (1, rS y B k), (5, vI ((((j + 1) : Nat) : Int) - 1)), (19, vI ((((j + 1) : Nat) : Int) - 1)), (20, bT), (23, rS x A c), (24, vI ((((j + 1) : Nat) : Int) - 1)), (25, elt (rS x A c) j), (26, vI (((digs x)).getD j 0)), (27, rS y B k), (28, vI ((((j + 1) : Nat) : Int) - 1)), (29, elt (rS y B k) j), (30, vI (((digs y)).getD j 0)), (31, bF), (32, rS x A c), (33, vI ((((j + 1) : Nat) : Int) - 1)), (34, elt (rS x A c) j), (35, vI (((digs x)).getD j 0)), (36, rS y B k), (37, vI ((((j + 1) : Nat) : Int) - 1)), (38, elt (rS y B k) j), (39, vI (((digs y)).getD j 0)), (40, bT)]) (hs := c_ mv_ <| c_ mv_ <| c_ (ia_ Try.underlying44 sz3 j j ((((j + 1) : Nat) : Int) - 1) (fun _ env _ wd hA => (hr.grown hA.j.st.gr).els) (by omega) (by omega) (Nat.mul_one _)) <| c_ (le_ j (fun _ env _ wd hA => (hr.grown hA.j.st.gr).els) (by omega) (le3 rfl)) <| c_ mv_ <| c_ mv_ <| c_ (ia_ Try.underlying44 sz3 j j ((((j + 1) : Nat) : Int) - 1) (fun _ env _ wd hA => (hr2.grown hA.j.st.gr).els) (by omega) (by omega) (Nat.mul_one _)) <| c_ (le_ j (fun _ env _ wd hA => (hr2.grown hA.j.st.gr).els) (by omega) (le3 rfl)) <| c_ (bi0 (vI (((digs x)).getD j 0)) (vI (((digs y)).getD j 0)) (h := by intro env w; have q0 := h3; simp only [List.getD_eq_getElem?_getD] at q0; simp [go_sem, q0])) <| e_) (k := fun E7 ac wd h_7 => ?_)
  clear h_6
  refine then_n ?_
  refine cT_ h_7 ?_
  refine wp_seq ?_
  refine rg_ h_7 [[0]] [K_ (vI 1)] (fun E8 => [(0, rS x A c), (1, rS y B k), (4, vI 1), (5, vI ((((j + 1) : Nat) : Int) - 1)), (19, vI ((((j + 1) : Nat) : Int) - 1)), (20, bT), (23, rS x A c), (24, vI ((((j + 1) : Nat) : Int) - 1)), (25, elt (rS x A c) j), (26, vI (((digs x)).getD j 0)), (27, rS y B k), (28, vI ((((j + 1) : Nat) : Int) - 1)), (29, elt (rS y B k) j), (30, vI (((digs y)).getD j 0)), (31, bF), (32, rS x A c), (33, vI ((((j + 1) : Nat) : Int) - 1)), (34, elt (rS x A c) j), (35, vI (((digs x)).getD j 0)), (36, rS y B k), (37, vI ((((j + 1) : Nat) : Int) - 1)), (38, elt (rS y B k) j), (39, vI (((digs y)).getD j 0)), (40, bT)]) (hs := c_ mv_ <| e_) (k := fun E8 ac wd h_8 => ?_)
  clear h_7
  refine then_n (wp_ret (blk_ret (then_ret (then_ret (blk_ret (then_ret ?_))))))
  refine lvT Try.results46 h_8 ?_
  exact ⟨by rw [cmp_gt hx hy h (i := j) (by omega) hdr h3], h_8.st.below⟩
  refine rg_ h_6 [[0],[1],[0,1,2],r_ 4,[4],[5],[4,5,6],[4,5,6,7],r_ 9] [K_ (rS x A c), K_ (vI ((((j + 1) : Nat) : Int) - 1)), K_ (elt (rS x A c) j), K_ (vI (((digs x)).getD j 0)), K_ (rS y B k), K_ (vI ((((j + 1) : Nat) : Int) - 1)), K_ (elt (rS y B k) j), K_ (vI (((digs y)).getD j 0)), K_ bF] (fun E7 => [(0, rS x A c), (1, rS y B k), (5, vI ((((j + 1) : Nat) : Int) - 1)), (19, vI ((((j + 1) : Nat) : Int) - 1)), (20, bT), (23, rS x A c), (24, vI ((((j + 1) : Nat) : Int) - 1)), (25, elt (rS x A c) j), (26, vI (((digs x)).getD j 0)), (27, rS y B k), (28, vI ((((j + 1) : Nat) : Int) - 1)), (29, elt (rS y B k) j), (30, vI (((digs y)).getD j 0)), (31, bF), (32, rS x A c), (33, vI ((((j + 1) : Nat) : Int) - 1)), (34, elt (rS x A c) j), (35, vI (((digs x)).getD j 0)), (36, rS y B k), (37, vI ((((j + 1) : Nat) : Int) - 1)), (38, elt (rS y B k) j), (39, vI (((digs y)).getD j 0)), (40, bF)]) (hs := c_ mv_ <| c_ mv_ <| c_ (ia_ Try.underlying44 sz3 j j ((((j + 1) : Nat) : Int) - 1) (fun _ env _ wd hA => (hr.grown hA.j.st.gr).els) (by omega) (by omega) (Nat.mul_one _)) <| c_ (le_ j (fun _ env _ wd hA => (hr.grown hA.j.st.gr).els) (by omega) (le3 rfl)) <| c_ mv_ <| c_ mv_ <| c_ (ia_ Try.underlying44 sz3 j j ((((j + 1) : Nat) : Int) - 1) (fun _ env _ wd hA => (hr2.grown hA.j.st.gr).els) (by omega) (by omega) (Nat.mul_one _)) <| c_ (le_ j (fun _ env _ wd hA => (hr2.grown hA.j.st.gr).els) (by omega) (le3 rfl)) <| c_ (bi0 (vI (((digs x)).getD j 0)) (vI (((digs y)).getD j 0)) (h := by intro env w; have q0 := h3; simp only [List.getD_eq_getElem?_getD] at q0; simp [go_sem, q0])) <| e_) (k := fun E7 ac wd h_7 => ?_)
  clear h_6
  refine then_n ?_
  refine cF_ h_7 ?_
  refine wp_skip (blk_n (then_n ?_))
  refine rg_ h_7 (tri 3) [K_ (vI ((((j + 1) : Nat) : Int) - 1)), K_ (vI (((j : Nat) : Int) - 1)), K_ (vI (((j : Nat) : Int) - 1))] (fun E8 => [(0, rS x A c), (1, rS y B k), (5, vI (((j : Nat) : Int) - 1)), (19, vI ((((j + 1) : Nat) : Int) - 1)), (20, bT), (21, vI ((((j + 1) : Nat) : Int) - 1)), (22, vI (((j : Nat) : Int) - 1)), (23, rS x A c), (24, vI ((((j + 1) : Nat) : Int) - 1)), (25, elt (rS x A c) j), (26, vI (((digs x)).getD j 0)), (27, rS y B k), (28, vI ((((j + 1) : Nat) : Int) - 1)), (29, elt (rS y B k) j), (30, vI (((digs y)).getD j 0)), (31, bF), (32, rS x A c), (33, vI ((((j + 1) : Nat) : Int) - 1)), (34, elt (rS x A c) j), (35, vI (((digs x)).getD j 0)), (36, rS y B k), (37, vI ((((j + 1) : Nat) : Int) - 1)), (38, elt (rS y B k) j), (39, vI (((digs y)).getD j 0)), (40, bF)]) (hs := c_ mv_ <| c_ (bi0 (vI ((((j + 1) : Nat) : Int) - 1)) (vI 1) (h := by intro env w; (first | (simp [go_sem]; done) | (simp [go_sem]; exact IntWalk.i64_in _ (by omega)) | (have hle := hr.le; have hle2 := hr2.le; simp [go_sem]; exact IntWalk.i64_in _ (by omega))))) <| c_ mv_ <| e_) (k := fun E8 ac wd h_8 => ?_)
  clear h_7
  refine then_n ?_
  exact ⟨⟨j, ⟨by omega, drop_step h hdr (by omega)⟩, h_8.re rfl⟩, by rw [sI_eq (h_8.g (t := 5) rfl), hmu]; omega⟩
  refine rg_ h_1 [[0],[0,1],[2],[2,3],r_ 5] [K_ (rS x A c), K_ (vN ((digs x).length)), K_ (rS y B k), K_ (vN ((digs y).length)), K_ bT] (fun E2 => [(0, rS x A c), (1, rS y B k), (4, vI 0), (10, bT)]) (hs := c_ mv_ <| c_ (ln_ Try.underlying44 fun _ env _ wd hA => (hr.grown hA.j.st.gr).els) <| c_ mv_ <| c_ (ln_ Try.underlying44 fun _ env _ wd hA => (hr2.grown hA.j.st.gr).els) <| c_ (bi0 (vN ((digs x).length)) (vN ((digs y).length))) <| e_) (k := fun E2 ac wd h_2 => ?_)
  clear h_1
  refine then_n ?_
  refine cT_ h_2 ?_
  refine wp_seq (wp_seq ?_)
  refine rg_ h_2 [[0],[0,1],[2],[2,3],r_ 5] [K_ (rS x A c), K_ (vN ((digs x).length)), K_ (rS y B k), K_ (vN ((digs y).length)), K_ bF] (fun E3 => [(0, rS x A c), (1, rS y B k), (4, vI 0), (15, bF)]) (hs := c_ mv_ <| c_ (ln_ Try.underlying44 fun _ env _ wd hA => (hr.grown hA.j.st.gr).els) <| c_ mv_ <| c_ (ln_ Try.underlying44 fun _ env _ wd hA => (hr2.grown hA.j.st.gr).els) <| c_ (bi0 (vN ((digs x).length)) (vN ((digs y).length))) <| e_) (k := fun E3 ac wd h_3 => ?_)
  clear h_2
  refine then_n ?_
  refine cF_ h_3 ?_
  refine wp_skip (then_n (wp_seq ?_))
  refine rg_ h_3 [[0]] [K_ (vI 1)] (fun E4 => [(0, rS x A c), (1, rS y B k), (4, vI 1)]) (hs := c_ mv_ <| e_) (k := fun E4 ac wd h_4 => ?_)
  clear h_3
  refine then_n (wp_ret (then_ret ?_))
  refine lvT Try.results46 h_4 ?_
  exact ⟨by rw [cmp_len_gt hx hy h], h_4.st.below⟩
end Go.Proofs.Ytdfkghpgekmmlaa

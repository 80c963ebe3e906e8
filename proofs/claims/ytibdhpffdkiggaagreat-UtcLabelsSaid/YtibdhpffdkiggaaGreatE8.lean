/- epactref01: Mul, Pow2, Of (printed by my walk.py) -/
import Derived.Test.YtibdhpffdkiggaaGreatL8
import Derived.Test.YtibdhpffdkiggaaGreatP2
import Derived.Test.YtibdhpffdkiggaaGreatE7
import Derived.Test.YtibdhpffdkiggaaGreatM3
import Derived.IntWalk
namespace Go.Proofs.YtibdhpffdkiggaaGreat
open Go.RowKit
set_option linter.unusedVariables false
set_option linter.unusedSimpArgs false
attribute [local go_sem] vN bT bF rS vW vM vL vT2 vT3 vP vI execOp Act.eval evC bigF vB hi_zero lo_zero Tryz.underlying107 Tryz.underlying3 Tryz.underlying42

set_option maxRecDepth 100000 in
set_option maxHeartbeats 8000000 in
theorem Mul_any (w0 : World) (p : Bool) (A0 : Option Addr) (c0 : Nat) (x : Int) (hp : p = decide (x < 0)) (hr : Row w0 (.slice A0 (digs x).length c0) (digs x)) (hx : Sm x) (q : Bool) (B0 : Option Addr) (k0 : Nat) (y : Int) (hq : q = decide (y < 0)) (hr2 : Row w0 (.slice B0 (digs y).length k0) (digs y)) (hy : Sm y) : Calls Tryz.prog 27 #[.agg #[.bool (p), .slice A0 ((digs x).length) c0], .agg #[.bool (q), .slice B0 ((digs y).length) k0]] w0 fun e w' => ∃ v, e = .returned v ∧ Below w0.heap.size w0 w' ∧ BigN w0.heap.size w' v (x * y) := by
  have hlx := hx.len
  have hly := hy.len
  have hst := St.start w0 (Θ := fun _ => True) (fun _ _ => trivial)
  refine enter Tryz.func27 rfl (n := 83) rfl (Nat.le_of_ble_eq_true rfl) hst (L := [(0, .agg #[.bool (p), .slice A0 ((digs x).length) c0]), (1, .agg #[.bool (q), .slice B0 ((digs y).length) k0])]) (lk_args rfl) (fun ac h => ?_)
  refine wp_seq ?_
  refine rg_ h [[0],[1],[2]] [KE_ fun env => vP (pb env 0) 0, KE_ fun env => vP (pb env 1) 0, KE_ fun env => vP (pb env 2) 0] (fun E1 => [(2, vP (pb E1 0) 0), (3, vP (pb E1 1) 0), (4, vP (pb E1 2) 0)]) (W := [{ i := 0, T := 42, c0 := [.bool (p), rS x A0 c0] }, { i := 1, T := 42, c0 := [.bool (q), rS y B0 k0] }, { i := 2, T := 42, c0 := [bF, .slice none 0 0] }]) (M' := fun E1 => [((pb E1 0), 42, [.bool (p), rS x A0 c0]), ((pb E1 1), 42, [.bool (q), rS y B0 k0]), ((pb E1 2), 42, [bF, .slice none 0 0])]) (hs := c_ (bx0 0 (.agg #[.bool (p), rS x A0 c0])) <| c_ (bx0 1 (.agg #[.bool (q), rS y B0 k0])) <| c_ (al_ 2) <| e_) (k := fun E1 ac wd h_1 => ?_)
  clear h
  refine then_n (wp_seq ?_)
  refine rg_ h_1 [[0],[0,1],[0,1,2],[3],[3,4],[3,4,5],r_ 7,r_ 8,r_ 9] [K_ (vP (pb E1 0) 1), K_ (rS x A0 c0), K_ (vN ((digs x).length)), K_ (vP (pb E1 1) 1), K_ (rS y B0 k0), K_ (vN ((digs y).length)), K_ (vI (((digs x).length : Int) + ((digs y).length : Int))), KE_ fun env => .slice ((some ⟨(pb env 7), 0, none⟩)) (((digs x).length + (digs y).length)) (((digs x).length + (digs y).length)), KE_ fun env => .slice ((some ⟨(pb env 7), 0, none⟩)) (((digs x).length + (digs y).length)) (((digs x).length + (digs y).length))] (fun E2 => [(2, vP (pb E1 0) 0), (3, vP (pb E1 1) 0), (4, vP (pb E1 2) 0), (5, .slice ((some ⟨(pb E2 7), 0, none⟩)) (((digs x).length + (digs y).length)) (((digs x).length + (digs y).length)))]) (th := (some (7, fun env w => OwnR w w0.heap.size (vG (pb env 7) ((digs x).length + (digs y).length)) (List.replicate ((digs x).length + (digs y).length) 0)))) (T := fun E2 => fun w => OwnR w w0.heap.size (vG (pb E2 7) ((digs x).length + (digs y).length)) (List.replicate ((digs x).length + (digs y).length) 0)) (hs := c_ (fa0 (vP (pb E1 0) 0)) <| c_ (ld_ 0 (hrd := by exact rd40 rfl)) <| c_ (ln_ Tryz.underlying40 fun _ env _ wd hA => (hr.grown hA.j.st.gr).els) <| c_ (fa0 (vP (pb E1 1) 0)) <| c_ (ld_ 1 (hrd := by exact rd40 rfl)) <| c_ (ln_ Tryz.underlying40 fun _ env _ wd hA => (hr2.grown hA.j.st.gr).els) <| c_ (bi0 (vN ((digs x).length)) (vN ((digs y).length))) <| c_ (s_mk rfl rfl rfl rfl ((digs x).length + (digs y).length) rfl rfl rfl (((digs x).length : Int) + ((digs y).length : Int)) (by omega) (by omega) (fun _ => rfl) (fun _ => rfl)) <| c_ mv_ <| e_) (k := fun E2 ac wd h_2 => ?_)
  clear h_1
  obtain ⟨g, hg⟩ : ∃ g, g = pb E2 7 := ⟨_, rfl⟩
  rw [← hg] at h_2
  replace h_2 := Cur.exIn h_2.facts (fun _ h => h)
  refine then_n (wp_seq (wp_seq ?_))
  refine rf_ h_2 [[0]] [K_ (vI 0)] (fun E3 => [(2, vP (pb E1 0) 0), (3, vP (pb E1 1) 0), (4, vP (pb E1 2) 0), (5, .slice ((some ⟨g, 0, none⟩)) (((digs x).length + (digs y).length)) (((digs x).length + (digs y).length))), (6, vI 0)]) (hs := c_ mv_ <| e_) (k := fun E3 ac wd h_3 => ?_)
  clear h_2
  refine then_n (wp_block ?_)
  refine wp_loop (fun ac wd => ∃ (ds : List Int) (i : Nat), MulI (digs x) (digs y) ds i ∧ Cur 83 w0 none (some g) (Facts []) (fun w => OwnR w w0.heap.size (vG g ((digs x).length + (digs y).length)) ds) [(2, vP (pb E1 0) 0), (3, vP (pb E1 1) 0), (4, vP (pb E1 2) 0), (5, .slice ((some ⟨g, 0, none⟩)) (((digs x).length + (digs y).length)) (((digs x).length + (digs y).length))), (6, vN i)] [((pb E1 0), 42, [.bool (p), rS x A0 c0]), ((pb E1 1), 42, [.bool (q), rS y B0 k0]), ((pb E1 2), 42, [bF, .slice none 0 0])] ac wd) (fun ac _ => (((digs x).length : Int) - sI ac 6).toNat) ⟨_, 0, MulI.start _ _, (h_3.re rfl).th (fun _ h => h)⟩ ?_
  rintro ac wd ⟨ds, i, hI, h_4⟩
  clear h_3
  have hmu : sI ac 6 = ((i : Nat) : Int) := sI_eq (h_4.g (t := 6) rfl)
  have hIl := hI.l
  have hIi := hI.hi
  refine wp_seq (wp_seq ?_)
  by_cases h1 : i < (digs x).length
  refine rf_ h_4 [[0],[1],[1,2],[1,2,3],r_ 5] [K_ (vN i), K_ (vP (pb E1 0) 1), K_ (rS x A0 c0), K_ (vN ((digs x).length)), K_ bT] (fun E5 => [(2, vP (pb E1 0) 0), (3, vP (pb E1 1) 0), (4, vP (pb E1 2) 0), (5, .slice ((some ⟨g, 0, none⟩)) (((digs x).length + (digs y).length)) (((digs x).length + (digs y).length))), (6, vN i), (18, vN i), (19, vP (pb E1 0) 1), (20, rS x A0 c0), (21, vN ((digs x).length)), (22, bT)]) (hs := c_ mv_ <| c_ (fa0 (vP (pb E1 0) 0)) <| c_ (ld_ 0 (hrd := by exact rd40 rfl)) <| c_ (ln_ Tryz.underlying40 fun _ env _ wd hA => (hr.grown hA.j.st.gr).els) <| c_ (bi0 (vN i) (vN ((digs x).length))) <| e_) (k := fun E5 ac wd h_5 => ?_)
  clear h_4
  refine then_n ?_
  refine wp_cond_true (eval_tmp (h_5.g (t := 22) rfl)) ?_
  refine wp_skip (then_n (wp_seq (wp_block (wp_seq ?_))))
  refine rf_ h_5 [[0]] [K_ (vI 0)] (fun E6 => [(2, vP (pb E1 0) 0), (3, vP (pb E1 1) 0), (4, vP (pb E1 2) 0), (5, .slice ((some ⟨g, 0, none⟩)) (((digs x).length + (digs y).length)) (((digs x).length + (digs y).length))), (6, vN i), (7, vI 0), (18, vN i), (19, vP (pb E1 0) 1), (20, rS x A0 c0), (21, vN ((digs x).length)), (22, bT)]) (hs := c_ mv_ <| e_) (k := fun E6 ac wd h_6 => ?_)
  clear h_5
  refine then_n (wp_seq (wp_seq ?_))
  refine rf_ h_6 [[0]] [K_ (vI 0)] (fun E7 => [(2, vP (pb E1 0) 0), (3, vP (pb E1 1) 0), (4, vP (pb E1 2) 0), (5, .slice ((some ⟨g, 0, none⟩)) (((digs x).length + (digs y).length)) (((digs x).length + (digs y).length))), (6, vN i), (7, vI 0), (8, vI 0), (18, vN i), (19, vP (pb E1 0) 1), (20, rS x A0 c0), (21, vN ((digs x).length)), (22, bT)]) (hs := c_ mv_ <| e_) (k := fun E7 ac wd h_7 => ?_)
  clear h_6
  refine then_n (wp_block ?_)
  refine wp_loop (fun ac wd => ∃ (es : List Int) (j : Nat) (cy : Int), MulJ (digs x) (digs y) ds es i j cy ∧ Cur 83 w0 none (some g) (Facts []) (fun w => OwnR w w0.heap.size (vG g ((digs x).length + (digs y).length)) es) [(2, vP (pb E1 0) 0), (3, vP (pb E1 1) 0), (4, vP (pb E1 2) 0), (5, .slice ((some ⟨g, 0, none⟩)) (((digs x).length + (digs y).length)) (((digs x).length + (digs y).length))), (6, vN i), (7, vI cy), (8, vN j), (18, vN i), (19, vP (pb E1 0) 1), (20, rS x A0 c0), (21, vN ((digs x).length)), (22, bT)] [((pb E1 0), 42, [.bool (p), rS x A0 c0]), ((pb E1 1), 42, [.bool (q), rS y B0 k0]), ((pb E1 2), 42, [bF, .slice none 0 0])] ac wd) (fun ac _ => (((digs y).length : Int) - sI ac 8).toNat) ⟨ds, 0, 0, hI.open, (h_7.re rfl).th (fun _ h => h)⟩ ?_
  rintro ac wd ⟨es, j, cy, hJ, h_8⟩
  clear h_7
  have hmv : sI ac 8 = ((j : Nat) : Int) := sI_eq (h_8.g (t := 8) rfl)
  have hJl := hJ.l
  have hJj := hJ.hj
  have hJ0 := hJ.c0
  have hJ1 := hJ.c1
  refine wp_seq (wp_seq ?_)
  by_cases h2 : j < (digs y).length
  refine rf_ h_8 [[0],[1],[1,2],[1,2,3],r_ 5] [K_ (vN j), K_ (vP (pb E1 1) 1), K_ (rS y B0 k0), K_ (vN ((digs y).length)), K_ bT] (fun E9 => [(2, vP (pb E1 0) 0), (3, vP (pb E1 1) 0), (4, vP (pb E1 2) 0), (5, .slice ((some ⟨g, 0, none⟩)) (((digs x).length + (digs y).length)) (((digs x).length + (digs y).length))), (6, vN i), (7, vI cy), (8, vN j), (18, vN i), (19, vP (pb E1 0) 1), (20, rS x A0 c0), (21, vN ((digs x).length)), (22, bT), (25, vN j), (26, vP (pb E1 1) 1), (27, rS y B0 k0), (28, vN ((digs y).length)), (29, bT)]) (hs := c_ mv_ <| c_ (fa0 (vP (pb E1 1) 0)) <| c_ (ld_ 1 (hrd := by exact rd40 rfl)) <| c_ (ln_ Tryz.underlying40 fun _ env _ wd hA => (hr2.grown hA.j.st.gr).els) <| c_ (bi0 (vN j) (vN ((digs y).length))) <| e_) (k := fun E9 ac wd h_9 => ?_)
  clear h_8
  refine then_n ?_
  refine wp_cond_true (eval_tmp (h_9.g (t := 29) rfl)) ?_
  refine wp_skip (then_n (wp_seq (wp_block (wp_seq ?_))))
  obtain ⟨u, hu⟩ : ∃ u, u = (digs x).getD i 0 := ⟨_, rfl⟩
  obtain ⟨v, hv⟩ : ∃ v, v = (digs y).getD j 0 := ⟨_, rfl⟩
  obtain ⟨e, he⟩ : ∃ e, e = es.getD (i + j) 0 := ⟨_, rfl⟩
  have gu := (rg_digs x).getD i
  have gv := (rg_digs y).getD j
  have ge := hJ.g.getD (i + j)
  rw [← hu] at gu; rw [← hv] at gv; rw [← he] at ge
  have guv := mul16 gu.1 gu.2 gv.1 gv.2
  refine rf_ h_9 [[0],[1],[2],[1,2,3],r_ 5,r_ 6,[6],[6,7],[8],[6,7,8,9],[6,7,8,9,10],[11],[11,12],[13],[11,12,13,14],[11,12,13,14,15],[6,7,8,9,10,11,12,13,14,15,16],r_ 18,[18],r_ 20,r_ 21] [K_ (.slice ((some ⟨g, 0, none⟩)) (((digs x).length + (digs y).length)) (((digs x).length + (digs y).length))), K_ (vN i), K_ (vN j), K_ (vI (((i : Nat) : Int) + ((j : Nat) : Int))), K_ (elt (.slice ((some ⟨g, 0, none⟩)) (((digs x).length + (digs y).length)) (((digs x).length + (digs y).length))) (i + j)), K_ (vI e), K_ (vP (pb E1 0) 1), K_ (rS x A0 c0), K_ (vN i), K_ (elt (rS x A0 c0) (i : Nat)), K_ (vI u), K_ (vP (pb E1 1) 1), K_ (rS y B0 k0), K_ (vN j), K_ (elt (rS y B0 k0) (j : Nat)), K_ (vI v), K_ (vI (u * v)), K_ (vI (e + (u * v))), K_ (vI cy), K_ (vI ((e + (u * v)) + cy)), K_ (vI ((e + (u * v)) + cy))] (fun E10 => [(2, vP (pb E1 0) 0), (3, vP (pb E1 1) 0), (4, vP (pb E1 2) 0), (5, .slice ((some ⟨g, 0, none⟩)) (((digs x).length + (digs y).length)) (((digs x).length + (digs y).length))), (6, vN i), (7, vI cy), (8, vN j), (9, vI ((e + (u * v)) + cy)), (18, vN i), (19, vP (pb E1 0) 1), (20, rS x A0 c0), (21, vN ((digs x).length)), (22, bT), (25, vN j), (26, vP (pb E1 1) 1), (27, rS y B0 k0), (28, vN ((digs y).length)), (29, bT), (32, .slice ((some ⟨g, 0, none⟩)) (((digs x).length + (digs y).length)) (((digs x).length + (digs y).length))), (33, vN i), (34, vN j), (35, vI (((i : Nat) : Int) + ((j : Nat) : Int))), (36, elt (.slice ((some ⟨g, 0, none⟩)) (((digs x).length + (digs y).length)) (((digs x).length + (digs y).length))) (i + j)), (37, vI e), (38, vP (pb E1 0) 1), (39, rS x A0 c0), (40, vN i), (41, elt (rS x A0 c0) (i : Nat)), (42, vI u), (43, vP (pb E1 1) 1), (44, rS y B0 k0), (45, vN j), (46, elt (rS y B0 k0) (j : Nat)), (47, vI v), (48, vI (u * v)), (49, vI (e + (u * v))), (50, vI cy), (51, vI ((e + (u * v)) + cy))]) (hs := c_ mv_ <| c_ mv_ <| c_ mv_ <| c_ (bi0 (vN i) (vN j)) <| c_ (ia_ Tryz.underlying40 sz3 (i + j) (i + j) (((i : Nat) : Int) + ((j : Nat) : Int)) (fun _ env _ wd hA => (OwnR.row (by omega) (hA.thO rfl)).els) (by omega) (by omega) (Nat.mul_one _)) <| c_ (le_ (i + j) (fun _ env _ wd hA => (OwnR.row (by omega) (hA.thO rfl)).els) (by omega) (le3 (congrArg vi he.symm))) <| c_ (fa0 (vP (pb E1 0) 0)) <| c_ (ld_ 0 (hrd := by exact rd40 rfl)) <| c_ mv_ <| c_ (ia_ Tryz.underlying40 sz3 (i : Nat) (i : Nat) ((i : Nat) : Int) (fun _ env _ wd hA => (hr.grown hA.j.st.gr).els) (by omega) (by omega) (Nat.mul_one _)) <| c_ (le_ (i : Nat) (fun _ env _ wd hA => (hr.grown hA.j.st.gr).els) (by omega) (le3 (congrArg vi hu.symm))) <| c_ (fa0 (vP (pb E1 1) 0)) <| c_ (ld_ 1 (hrd := by exact rd40 rfl)) <| c_ mv_ <| c_ (ia_ Tryz.underlying40 sz3 (j : Nat) (j : Nat) ((j : Nat) : Int) (fun _ env _ wd hA => (hr2.grown hA.j.st.gr).els) (by omega) (by omega) (Nat.mul_one _)) <| c_ (le_ (j : Nat) (fun _ env _ wd hA => (hr2.grown hA.j.st.gr).els) (by omega) (le3 (congrArg vi hv.symm))) <| c_ (bi0 (vI u) (vI v)) <| c_ (bi0 (vI e) (vI (u * v))) <| c_ mv_ <| c_ (bi0 (vI (e + (u * v))) (vI cy)) <| c_ mv_ <| e_) (k := fun E10 ac wd h_10 => ?_)
  clear h_9
  refine then_n (wp_seq ?_)
  refine rf_ h_10 [[0],[1],[2],[1,2,3],[4],[4,5],r_ 7,r_ 8] [K_ (.slice ((some ⟨g, 0, none⟩)) (((digs x).length + (digs y).length)) (((digs x).length + (digs y).length))), K_ (vN i), K_ (vN j), K_ (vI (((i : Nat) : Int) + ((j : Nat) : Int))), K_ (vI ((e + (u * v)) + cy)), K_ (vI (((e + (u * v)) + cy) % 65536)), K_ (elt (.slice ((some ⟨g, 0, none⟩)) (((digs x).length + (digs y).length)) (((digs x).length + (digs y).length))) (i + j)), none] (fun E11 => [(2, vP (pb E1 0) 0), (3, vP (pb E1 1) 0), (4, vP (pb E1 2) 0), (5, .slice ((some ⟨g, 0, none⟩)) (((digs x).length + (digs y).length)) (((digs x).length + (digs y).length))), (6, vN i), (7, vI cy), (8, vN j), (9, vI ((e + (u * v)) + cy)), (18, vN i), (19, vP (pb E1 0) 1), (20, rS x A0 c0), (21, vN ((digs x).length)), (22, bT), (25, vN j), (26, vP (pb E1 1) 1), (27, rS y B0 k0), (28, vN ((digs y).length)), (29, bT), (32, .slice ((some ⟨g, 0, none⟩)) (((digs x).length + (digs y).length)) (((digs x).length + (digs y).length))), (33, vN i), (34, vN j), (35, vI (((i : Nat) : Int) + ((j : Nat) : Int))), (36, elt (.slice ((some ⟨g, 0, none⟩)) (((digs x).length + (digs y).length)) (((digs x).length + (digs y).length))) (i + j)), (37, vI e), (38, vP (pb E1 0) 1), (39, rS x A0 c0), (40, vN i), (41, elt (rS x A0 c0) (i : Nat)), (42, vI u), (43, vP (pb E1 1) 1), (44, rS y B0 k0), (45, vN j), (46, elt (rS y B0 k0) (j : Nat)), (47, vI v), (48, vI (u * v)), (49, vI (e + (u * v))), (50, vI cy), (51, vI ((e + (u * v)) + cy)), (52, .slice ((some ⟨g, 0, none⟩)) (((digs x).length + (digs y).length)) (((digs x).length + (digs y).length))), (53, vN i), (54, vN j), (55, vI (((i : Nat) : Int) + ((j : Nat) : Int))), (56, vI ((e + (u * v)) + cy)), (57, vI (((e + (u * v)) + cy) % 65536)), (58, elt (.slice ((some ⟨g, 0, none⟩)) (((digs x).length + (digs y).length)) (((digs x).length + (digs y).length))) (i + j))]) (th := (some (7, fun _ w => OwnR w w0.heap.size (vG g ((digs x).length + (digs y).length)) (es.set (i + j) (((e + (u * v)) + cy) % 65536))))) (T := fun E11 => fun w => OwnR w w0.heap.size (vG g ((digs x).length + (digs y).length)) (es.set (i + j) (((e + (u * v)) + cy) % 65536))) (hs := c_ mv_ <| c_ mv_ <| c_ mv_ <| c_ (bi0 (vN i) (vN j)) <| c_ mv_ <| c_ (bi0 (vI ((e + (u * v)) + cy)) (vI 65536) (h := by intro env w; (first | (simp [go_sem]; done) | (simp [go_sem]; rw [Int.tmod_eq_emod_of_nonneg (by omega)]; exact IntWalk.i64_in _ (by omega)) | (simp [go_sem]; rw [Int.tmod_eq_emod_of_nonneg (by omega)])))) <| c_ (ia_ Tryz.underlying40 sz3 (i + j) (i + j) (((i : Nat) : Int) + ((j : Nat) : Int)) (fun _ env _ wd hA => (OwnR.row (by omega) (hA.thO rfl)).els) (by omega) (by omega) (Nat.mul_one _)) <| c_ (s_sr rfl rfl rfl rfl rfl rfl rfl (fun _ h => h) (i + j) (((e + (u * v)) + cy) % 65536) rfl (fun _ => rfl) (fun _ => rfl) (by omega)) <| e_) (k := fun E11 ac wd h_11 => ?_)
  clear h_10
  refine then_n ?_
  refine rf_ h_11 (tri 3) [K_ (vI ((e + (u * v)) + cy)), K_ (vI (((e + (u * v)) + cy) / 65536)), K_ (vI (((e + (u * v)) + cy) / 65536))] (fun E12 => [(2, vP (pb E1 0) 0), (3, vP (pb E1 1) 0), (4, vP (pb E1 2) 0), (5, .slice ((some ⟨g, 0, none⟩)) (((digs x).length + (digs y).length)) (((digs x).length + (digs y).length))), (6, vN i), (7, vI (((e + (u * v)) + cy) / 65536)), (8, vN j), (9, vI ((e + (u * v)) + cy)), (18, vN i), (19, vP (pb E1 0) 1), (20, rS x A0 c0), (21, vN ((digs x).length)), (22, bT), (25, vN j), (26, vP (pb E1 1) 1), (27, rS y B0 k0), (28, vN ((digs y).length)), (29, bT), (32, .slice ((some ⟨g, 0, none⟩)) (((digs x).length + (digs y).length)) (((digs x).length + (digs y).length))), (33, vN i), (34, vN j), (35, vI (((i : Nat) : Int) + ((j : Nat) : Int))), (36, elt (.slice ((some ⟨g, 0, none⟩)) (((digs x).length + (digs y).length)) (((digs x).length + (digs y).length))) (i + j)), (37, vI e), (38, vP (pb E1 0) 1), (39, rS x A0 c0), (40, vN i), (41, elt (rS x A0 c0) (i : Nat)), (42, vI u), (43, vP (pb E1 1) 1), (44, rS y B0 k0), (45, vN j), (46, elt (rS y B0 k0) (j : Nat)), (47, vI v), (48, vI (u * v)), (49, vI (e + (u * v))), (50, vI cy), (51, vI ((e + (u * v)) + cy)), (52, .slice ((some ⟨g, 0, none⟩)) (((digs x).length + (digs y).length)) (((digs x).length + (digs y).length))), (53, vN i), (54, vN j), (55, vI (((i : Nat) : Int) + ((j : Nat) : Int))), (56, vI ((e + (u * v)) + cy)), (57, vI (((e + (u * v)) + cy) % 65536)), (58, elt (.slice ((some ⟨g, 0, none⟩)) (((digs x).length + (digs y).length)) (((digs x).length + (digs y).length))) (i + j)), (59, vI ((e + (u * v)) + cy)), (60, vI (((e + (u * v)) + cy) / 65536))]) (hs := c_ mv_ <| c_ (bi0 (vI ((e + (u * v)) + cy)) (vI 65536) (h := by intro env w; (first | (simp [go_sem]; done) | (simp [go_sem]; rw [Int.tdiv_eq_ediv_of_nonneg (by omega)]; exact IntWalk.i64_in _ (by omega)) | (simp [go_sem]; rw [Int.tdiv_eq_ediv_of_nonneg (by omega)])))) <| c_ mv_ <| e_) (k := fun E12 ac wd h_12 => ?_)
  clear h_11
  refine blk_n (then_n ?_)
  refine rf_ h_12 (tri 3) [K_ (vN j), K_ (vI (((j : Nat) : Int) + 1)), K_ (vI (((j : Nat) : Int) + 1))] (fun E13 => [(2, vP (pb E1 0) 0), (3, vP (pb E1 1) 0), (4, vP (pb E1 2) 0), (5, .slice ((some ⟨g, 0, none⟩)) (((digs x).length + (digs y).length)) (((digs x).length + (digs y).length))), (6, vN i), (7, vI (((e + (u * v)) + cy) / 65536)), (8, vI (((j : Nat) : Int) + 1)), (9, vI ((e + (u * v)) + cy)), (18, vN i), (19, vP (pb E1 0) 1), (20, rS x A0 c0), (21, vN ((digs x).length)), (22, bT), (25, vN j), (26, vP (pb E1 1) 1), (27, rS y B0 k0), (28, vN ((digs y).length)), (29, bT), (30, vN j), (31, vI (((j : Nat) : Int) + 1)), (32, .slice ((some ⟨g, 0, none⟩)) (((digs x).length + (digs y).length)) (((digs x).length + (digs y).length))), (33, vN i), (34, vN j), (35, vI (((i : Nat) : Int) + ((j : Nat) : Int))), (36, elt (.slice ((some ⟨g, 0, none⟩)) (((digs x).length + (digs y).length)) (((digs x).length + (digs y).length))) (i + j)), (37, vI e), (38, vP (pb E1 0) 1), (39, rS x A0 c0), (40, vN i), (41, elt (rS x A0 c0) (i : Nat)), (42, vI u), (43, vP (pb E1 1) 1), (44, rS y B0 k0), (45, vN j), (46, elt (rS y B0 k0) (j : Nat)), (47, vI v), (48, vI (u * v)), (49, vI (e + (u * v))), (50, vI cy), (51, vI ((e + (u * v)) + cy)), (52, .slice ((some ⟨g, 0, none⟩)) (((digs x).length + (digs y).length)) (((digs x).length + (digs y).length))), (53, vN i), (54, vN j), (55, vI (((i : Nat) : Int) + ((j : Nat) : Int))), (56, vI ((e + (u * v)) + cy)), (57, vI (((e + (u * v)) + cy) % 65536)), (58, elt (.slice ((some ⟨g, 0, none⟩)) (((digs x).length + (digs y).length)) (((digs x).length + (digs y).length))) (i + j)), (59, vI ((e + (u * v)) + cy)), (60, vI (((e + (u * v)) + cy) / 65536))]) (hs := c_ mv_ <| c_ (bi0 (vN j) (vI 1)) <| c_ mv_ <| e_) (k := fun E13 ac wd h_13 => ?_)
  clear h_12
  refine then_n ?_
  exact ⟨⟨_, j + 1, (e + u * v + cy) / 65536, hJ.step (rg_digs x) (rg_digs y) h1 h2 (by rw [hu, hv, he]), h_13.re rfl⟩, by rw [sI_eq (h_13.g (t := 8) rfl), hmv]; omega⟩
  refine rf_ h_8 [[0],[1],[1,2],[1,2,3],r_ 5] [K_ (vN j), K_ (vP (pb E1 1) 1), K_ (rS y B0 k0), K_ (vN ((digs y).length)), K_ bF] (fun E9 => [(2, vP (pb E1 0) 0), (3, vP (pb E1 1) 0), (4, vP (pb E1 2) 0), (5, .slice ((some ⟨g, 0, none⟩)) (((digs x).length + (digs y).length)) (((digs x).length + (digs y).length))), (6, vN i), (7, vI cy), (8, vN j), (18, vN i), (19, vP (pb E1 0) 1), (20, rS x A0 c0), (21, vN ((digs x).length)), (22, bT), (25, vN j), (26, vP (pb E1 1) 1), (27, rS y B0 k0), (28, vN ((digs y).length)), (29, bF)]) (hs := c_ mv_ <| c_ (fa0 (vP (pb E1 1) 0)) <| c_ (ld_ 1 (hrd := by exact rd40 rfl)) <| c_ (ln_ Tryz.underlying40 fun _ env _ wd hA => (hr2.grown hA.j.st.gr).els) <| c_ (bi0 (vN j) (vN ((digs y).length))) <| e_) (k := fun E9 ac wd h_9 => ?_)
  clear h_8
  refine then_n ?_
  refine wp_cond_false (eval_tmp (h_9.g (t := 29) rfl)) ?_
  refine wp_exit (then_e (then_e (blk_x (then_n ?_))))
  refine rf_ h_9 [[0],[1],[2],[2,3],[2,3,4],[1,2,3,4,5],[6],r_ 8,r_ 9] [K_ (.slice ((some ⟨g, 0, none⟩)) (((digs x).length + (digs y).length)) (((digs x).length + (digs y).length))), K_ (vN i), K_ (vP (pb E1 1) 1), K_ (rS y B0 k0), K_ (vN ((digs y).length)), K_ (vI (((i : Nat) : Int) + ((digs y).length : Int))), K_ (vI cy), K_ (elt (.slice ((some ⟨g, 0, none⟩)) (((digs x).length + (digs y).length)) (((digs x).length + (digs y).length))) (i + (digs y).length)), none] (fun E10 => [(2, vP (pb E1 0) 0), (3, vP (pb E1 1) 0), (4, vP (pb E1 2) 0), (5, .slice ((some ⟨g, 0, none⟩)) (((digs x).length + (digs y).length)) (((digs x).length + (digs y).length))), (6, vN i), (7, vI cy), (8, vN j), (18, vN i), (19, vP (pb E1 0) 1), (20, rS x A0 c0), (21, vN ((digs x).length)), (22, bT), (25, vN j), (26, vP (pb E1 1) 1), (27, rS y B0 k0), (28, vN ((digs y).length)), (29, bF), (61, .slice ((some ⟨g, 0, none⟩)) (((digs x).length + (digs y).length)) (((digs x).length + (digs y).length))), (62, vN i), (63, vP (pb E1 1) 1), (64, rS y B0 k0), (65, vN ((digs y).length)), (66, vI (((i : Nat) : Int) + ((digs y).length : Int))), (67, vI cy), (68, elt (.slice ((some ⟨g, 0, none⟩)) (((digs x).length + (digs y).length)) (((digs x).length + (digs y).length))) (i + (digs y).length))]) (th := (some (8, fun _ w => OwnR w w0.heap.size (vG g ((digs x).length + (digs y).length)) (es.set (i + (digs y).length) cy)))) (T := fun E10 => fun w => OwnR w w0.heap.size (vG g ((digs x).length + (digs y).length)) (es.set (i + (digs y).length) cy)) (hs := c_ mv_ <| c_ mv_ <| c_ (fa0 (vP (pb E1 1) 0)) <| c_ (ld_ 1 (hrd := by exact rd40 rfl)) <| c_ (ln_ Tryz.underlying40 fun _ env _ wd hA => (hr2.grown hA.j.st.gr).els) <| c_ (bi0 (vN i) (vN ((digs y).length))) <| c_ mv_ <| c_ (ia_ Tryz.underlying40 sz3 (i + (digs y).length) (i + (digs y).length) (((i : Nat) : Int) + ((digs y).length : Int)) (fun _ env _ wd hA => (OwnR.row (by omega) (hA.thO rfl)).els) (by omega) (by omega) (Nat.mul_one _)) <| c_ (s_sr rfl rfl rfl rfl rfl rfl rfl (fun _ h => h) (i + (digs y).length) cy rfl (fun _ => rfl) (fun _ => rfl) (by omega)) <| e_) (k := fun E10 ac wd h_10 => ?_)
  clear h_9
  refine blk_n (then_n ?_)
  refine rf_ h_10 (tri 3) [K_ (vN i), K_ (vI (((i : Nat) : Int) + 1)), K_ (vI (((i : Nat) : Int) + 1))] (fun E11 => [(2, vP (pb E1 0) 0), (3, vP (pb E1 1) 0), (4, vP (pb E1 2) 0), (5, .slice ((some ⟨g, 0, none⟩)) (((digs x).length + (digs y).length)) (((digs x).length + (digs y).length))), (6, vI (((i : Nat) : Int) + 1)), (7, vI cy), (8, vN j), (18, vN i), (19, vP (pb E1 0) 1), (20, rS x A0 c0), (21, vN ((digs x).length)), (22, bT), (23, vN i), (24, vI (((i : Nat) : Int) + 1)), (25, vN j), (26, vP (pb E1 1) 1), (27, rS y B0 k0), (28, vN ((digs y).length)), (29, bF), (61, .slice ((some ⟨g, 0, none⟩)) (((digs x).length + (digs y).length)) (((digs x).length + (digs y).length))), (62, vN i), (63, vP (pb E1 1) 1), (64, rS y B0 k0), (65, vN ((digs y).length)), (66, vI (((i : Nat) : Int) + ((digs y).length : Int))), (67, vI cy), (68, elt (.slice ((some ⟨g, 0, none⟩)) (((digs x).length + (digs y).length)) (((digs x).length + (digs y).length))) (i + (digs y).length))]) (hs := c_ mv_ <| c_ (bi0 (vN i) (vI 1)) <| c_ mv_ <| e_) (k := fun E11 ac wd h_11 => ?_)
  clear h_10
  refine then_n ?_
  exact ⟨⟨_, i + 1, hJ.close hI h1 (by omega), h_11.re rfl⟩, by rw [sI_eq (h_11.g (t := 6) rfl), hmu]; omega⟩
  refine rf_ h_4 [[0],[1],[1,2],[1,2,3],r_ 5] [K_ (vN i), K_ (vP (pb E1 0) 1), K_ (rS x A0 c0), K_ (vN ((digs x).length)), K_ bF] (fun E5 => [(2, vP (pb E1 0) 0), (3, vP (pb E1 1) 0), (4, vP (pb E1 2) 0), (5, .slice ((some ⟨g, 0, none⟩)) (((digs x).length + (digs y).length)) (((digs x).length + (digs y).length))), (6, vN i), (18, vN i), (19, vP (pb E1 0) 1), (20, rS x A0 c0), (21, vN ((digs x).length)), (22, bF)]) (hs := c_ mv_ <| c_ (fa0 (vP (pb E1 0) 0)) <| c_ (ld_ 0 (hrd := by exact rd40 rfl)) <| c_ (ln_ Tryz.underlying40 fun _ env _ wd hA => (hr.grown hA.j.st.gr).els) <| c_ (bi0 (vN i) (vN ((digs x).length))) <| e_) (k := fun E5 ac wd h_5 => ?_)
  clear h_4
  refine then_n ?_
  refine wp_cond_false (eval_tmp (h_5.g (t := 22) rfl)) ?_
  refine wp_exit (then_e (then_e (blk_x (then_n (wp_seq ?_)))))
  rw [← hIl] at h_5
  refine rf_ h_5 (tri 3) [K_ (.slice ((some ⟨g, 0, none⟩)) ds.length ds.length), K_ (rS (nat ds) ((some ⟨g, 0, none⟩)) ds.length), K_ (rS (nat ds) ((some ⟨g, 0, none⟩)) ds.length)] (fun E6 => [(2, vP (pb E1 0) 0), (3, vP (pb E1 1) 0), (4, vP (pb E1 2) 0), (5, rS (nat ds) ((some ⟨g, 0, none⟩)) ds.length)]) (hs := c_ mv_ <| c_ (cw_ Tryz.func55 (h := fun _ env _ wd hA => ⟨_, trim_core wd (some ⟨g, 0, none⟩) ds.length ds (OwnR.row (by omega) (hA.thO rfl)) hI.g, rfl⟩)) <| c_ mv_ <| e_) (k := fun E6 ac wd h_6 => ?_)
  clear h_5
  refine then_n (wp_seq ?_)
  have eN : nat ds = ((x * y).natAbs : Int) := by rw [hI.done (by omega), nat_digs, nat_digs, Int.natAbs_mul, Int.natCast_mul]
  have hz : x * y = 0 → nat ds = 0 := fun e => by rw [eN, e]; rfl
  have hnz : ¬ x * y = 0 → ¬ nat ds = 0 := fun e => by rw [eN]; omega
  have hdig : digs (nat ds) = digs (x * y) := by rw [eN, digs_natAbs]
  cases p
  have h11 : 0 ≤ x := by have := of_decide_eq_false hp.symm; omega
  cases q
  have h12 : 0 ≤ y := by have := of_decide_eq_false hq.symm; omega
  refine rf_ h_6 [[0],[0,1],[2],[2,3],r_ 5,r_ 6,r_ 7,r_ 8,r_ 9,r_ 10,[10],r_ 12,r_ 13] [K_ (vP (pb E1 0) 0), K_ bF, K_ (vP (pb E1 1) 0), K_ bF, K_ bF, K_ bF, K_ undef, K_ undef, K_ undef, K_ bF, K_ (rS (nat ds) ((some ⟨g, 0, none⟩)) ds.length), K_ (.agg #[bF, rS (nat ds) ((some ⟨g, 0, none⟩)) ds.length]), none] (fun E7 => [(4, vP (pb E1 2) 0)]) (S := [⟨2, 12, fun _ => [bF, rS (nat ds) ((some ⟨g, 0, none⟩)) ds.length]⟩]) (M' := fun E7 => [((pb E1 0), 42, [bF, rS x A0 c0]), ((pb E1 1), 42, [bF, rS y B0 k0]), ((pb E1 2), 42, [bF, rS (nat ds) ((some ⟨g, 0, none⟩)) ds.length])]) (hs := c_ (fa0 (vP (pb E1 0) 0)) <| c_ (ld_ 0 (hrd := by exact rd4 rfl)) <| c_ (fa0 (vP (pb E1 1) 0)) <| c_ (ld_ 1 (hrd := by exact rd4 rfl)) <| c_ (bi0 bF bF) <| c_ mv_ <| c_ off_ <| c_ off_ <| c_ off_ <| c_ (pk0 bF undef bF) <| c_ mv_ <| c_ (bd0 ([bF, rS (nat ds) ((some ⟨g, 0, none⟩)) ds.length])) <| c_ (se_ 2 (hst := by exact fun _ _ _ hc => st42 rfl rfl rfl hc)) <| e_) (k := fun E7 ac wd h_7 => ?_)
  clear h_6
  refine then_n (wp_ret ?_)
  have s4 := h_7.g (t := 4) rfl
  have hc4 := (h_7.st.own 2 _ rfl).2
  have c4_0 := own_cell (o := 0) hc4 rfl
  have c4_1 := own_cell (o := 1) hc4 rfl
  refine leave (v := .agg #[.bool false, .slice ((some ⟨g, 0, none⟩)) ((digs (nat ds)).length) ds.length]) h_7.df (by simp [results, Tryz.results27, go_sem, Array.getD_eq_getD_getElem?, s4, c4_0, c4_1, Tryz.underlying42]) ?_
  have hT := h_7.st.nowT
  refine ⟨_, rfl, h_7.exOut.st.below, BigN.mk ?_ ?_ (RowN.trim hI.g ⟨OwnR.row (by omega) hT, OwnR.new hT _⟩)⟩
  · exact (decide_eq_false (by exact sg_same (by omega))).symm
  · exact hdig
  have h12 : y < 0 := of_decide_eq_true hq.symm
  by_cases h4 : x * y = 0
  refine rf_ h_6 [[0],[0,1],[2],[2,3],r_ 5,r_ 6,r_ 7,r_ 8,r_ 9,r_ 10,[10],r_ 12,r_ 13] [K_ (vP (pb E1 0) 0), K_ bF, K_ (vP (pb E1 1) 0), K_ bT, K_ bT, K_ bT, K_ (rS (nat ds) ((some ⟨g, 0, none⟩)) ds.length), K_ (vN ((digs (nat ds)).length)), K_ bF, K_ bF, K_ (rS (nat ds) ((some ⟨g, 0, none⟩)) ds.length), K_ (.agg #[bF, rS (nat ds) ((some ⟨g, 0, none⟩)) ds.length]), none] (fun E7 => [(4, vP (pb E1 2) 0)]) (S := [⟨2, 12, fun _ => [bF, rS (nat ds) ((some ⟨g, 0, none⟩)) ds.length]⟩]) (M' := fun E7 => [((pb E1 0), 42, [bF, rS x A0 c0]), ((pb E1 1), 42, [bT, rS y B0 k0]), ((pb E1 2), 42, [bF, rS (nat ds) ((some ⟨g, 0, none⟩)) ds.length])]) (hs := c_ (fa0 (vP (pb E1 0) 0)) <| c_ (ld_ 0 (hrd := by exact rd4 rfl)) <| c_ (fa0 (vP (pb E1 1) 0)) <| c_ (ld_ 1 (hrd := by exact rd4 rfl)) <| c_ (bi0 bF bT) <| c_ mv_ <| c_ (gm0 (rS (nat ds) ((some ⟨g, 0, none⟩)) ds.length)) <| c_ (ln_ Tryz.underlying40 fun _ env _ wd hA => (Row.trim hI.g (OwnR.row (by omega) (hA.thO rfl))).els) <| c_ (bi0 (vN ((digs (nat ds)).length)) (vI 0) (h := by intro env w; have h5 : digs (nat ds) = [] := (congrArg digs (hz h4)).trans digs_zero; simp [go_sem, h5])) <| c_ (pk0 bT bF bF (h := by intro env w; have h5 : digs (nat ds) = [] := (congrArg digs (hz h4)).trans digs_zero; simp [go_sem, h5])) <| c_ mv_ <| c_ (bd0 ([bF, rS (nat ds) ((some ⟨g, 0, none⟩)) ds.length])) <| c_ (se_ 2 (hst := by exact fun _ _ _ hc => st42 rfl rfl rfl hc)) <| e_) (k := fun E7 ac wd h_7 => ?_)
  clear h_6
  refine then_n (wp_ret ?_)
  have s4 := h_7.g (t := 4) rfl
  have hc4 := (h_7.st.own 2 _ rfl).2
  have c4_0 := own_cell (o := 0) hc4 rfl
  have c4_1 := own_cell (o := 1) hc4 rfl
  refine leave (v := .agg #[.bool false, .slice ((some ⟨g, 0, none⟩)) ((digs (nat ds)).length) ds.length]) h_7.df (by simp [results, Tryz.results27, go_sem, Array.getD_eq_getD_getElem?, s4, c4_0, c4_1, Tryz.underlying42]) ?_
  have hT := h_7.st.nowT
  refine ⟨_, rfl, h_7.exOut.st.below, BigN.mk ?_ ?_ (RowN.trim hI.g ⟨OwnR.row (by omega) hT, OwnR.new hT _⟩)⟩
  · exact (decide_eq_false (by have := sg_diff (x := x) (y := y) (by omega); omega)).symm
  · exact hdig
  refine rf_ h_6 [[0],[0,1],[2],[2,3],r_ 5,r_ 6,r_ 7,r_ 8,r_ 9,r_ 10,[10],r_ 12,r_ 13] [K_ (vP (pb E1 0) 0), K_ bF, K_ (vP (pb E1 1) 0), K_ bT, K_ bT, K_ bT, K_ (rS (nat ds) ((some ⟨g, 0, none⟩)) ds.length), K_ (vN ((digs (nat ds)).length)), K_ bT, K_ bT, K_ (rS (nat ds) ((some ⟨g, 0, none⟩)) ds.length), K_ (.agg #[bT, rS (nat ds) ((some ⟨g, 0, none⟩)) ds.length]), none] (fun E7 => [(4, vP (pb E1 2) 0)]) (S := [⟨2, 12, fun _ => [bT, rS (nat ds) ((some ⟨g, 0, none⟩)) ds.length]⟩]) (M' := fun E7 => [((pb E1 0), 42, [bF, rS x A0 c0]), ((pb E1 1), 42, [bT, rS y B0 k0]), ((pb E1 2), 42, [bT, rS (nat ds) ((some ⟨g, 0, none⟩)) ds.length])]) (hs := c_ (fa0 (vP (pb E1 0) 0)) <| c_ (ld_ 0 (hrd := by exact rd4 rfl)) <| c_ (fa0 (vP (pb E1 1) 0)) <| c_ (ld_ 1 (hrd := by exact rd4 rfl)) <| c_ (bi0 bF bT) <| c_ mv_ <| c_ (gm0 (rS (nat ds) ((some ⟨g, 0, none⟩)) ds.length)) <| c_ (ln_ Tryz.underlying40 fun _ env _ wd hA => (Row.trim hI.g (OwnR.row (by omega) (hA.thO rfl))).els) <| c_ (bi0 (vN ((digs (nat ds)).length)) (vI 0) (h := by intro env w; have h5 : digs (nat ds) ≠ [] := fun e => hnz h4 (digs_nil.1 (by rw [e]; rfl)); first | (simp [go_sem]; done) | (simp [go_sem]; exact List.length_pos_iff.2 h5))) <| c_ (pk0 bT bT bF (h := by intro env w; have h5 : digs (nat ds) ≠ [] := fun e => hnz h4 (digs_nil.1 (by rw [e]; rfl)); first | (simp [go_sem]; done) | (simp [go_sem]; exact List.length_pos_iff.2 h5))) <| c_ mv_ <| c_ (bd0 ([bT, rS (nat ds) ((some ⟨g, 0, none⟩)) ds.length])) <| c_ (se_ 2 (hst := by exact fun _ _ _ hc => st42 rfl rfl rfl hc)) <| e_) (k := fun E7 ac wd h_7 => ?_)
  clear h_6
  refine then_n (wp_ret ?_)
  have s4 := h_7.g (t := 4) rfl
  have hc4 := (h_7.st.own 2 _ rfl).2
  have c4_0 := own_cell (o := 0) hc4 rfl
  have c4_1 := own_cell (o := 1) hc4 rfl
  refine leave (v := .agg #[.bool true, .slice ((some ⟨g, 0, none⟩)) ((digs (nat ds)).length) ds.length]) h_7.df (by simp [results, Tryz.results27, go_sem, Array.getD_eq_getD_getElem?, s4, c4_0, c4_1, Tryz.underlying42]) ?_
  have hT := h_7.st.nowT
  refine ⟨_, rfl, h_7.exOut.st.below, BigN.mk ?_ ?_ (RowN.trim hI.g ⟨OwnR.row (by omega) hT, OwnR.new hT _⟩)⟩
  · exact (decide_eq_true (by have := sg_diff (x := x) (y := y) (by omega); omega)).symm
  · exact hdig
  have h11 : x < 0 := of_decide_eq_true hp.symm
  cases q
  have h12 : 0 ≤ y := by have := of_decide_eq_false hq.symm; omega
  by_cases h4 : x * y = 0
  refine rf_ h_6 [[0],[0,1],[2],[2,3],r_ 5,r_ 6,r_ 7,r_ 8,r_ 9,r_ 10,[10],r_ 12,r_ 13] [K_ (vP (pb E1 0) 0), K_ bT, K_ (vP (pb E1 1) 0), K_ bF, K_ bT, K_ bT, K_ (rS (nat ds) ((some ⟨g, 0, none⟩)) ds.length), K_ (vN ((digs (nat ds)).length)), K_ bF, K_ bF, K_ (rS (nat ds) ((some ⟨g, 0, none⟩)) ds.length), K_ (.agg #[bF, rS (nat ds) ((some ⟨g, 0, none⟩)) ds.length]), none] (fun E7 => [(4, vP (pb E1 2) 0)]) (S := [⟨2, 12, fun _ => [bF, rS (nat ds) ((some ⟨g, 0, none⟩)) ds.length]⟩]) (M' := fun E7 => [((pb E1 0), 42, [bT, rS x A0 c0]), ((pb E1 1), 42, [bF, rS y B0 k0]), ((pb E1 2), 42, [bF, rS (nat ds) ((some ⟨g, 0, none⟩)) ds.length])]) (hs := c_ (fa0 (vP (pb E1 0) 0)) <| c_ (ld_ 0 (hrd := by exact rd4 rfl)) <| c_ (fa0 (vP (pb E1 1) 0)) <| c_ (ld_ 1 (hrd := by exact rd4 rfl)) <| c_ (bi0 bT bF) <| c_ mv_ <| c_ (gm0 (rS (nat ds) ((some ⟨g, 0, none⟩)) ds.length)) <| c_ (ln_ Tryz.underlying40 fun _ env _ wd hA => (Row.trim hI.g (OwnR.row (by omega) (hA.thO rfl))).els) <| c_ (bi0 (vN ((digs (nat ds)).length)) (vI 0) (h := by intro env w; have h5 : digs (nat ds) = [] := (congrArg digs (hz h4)).trans digs_zero; simp [go_sem, h5])) <| c_ (pk0 bT bF bF (h := by intro env w; have h5 : digs (nat ds) = [] := (congrArg digs (hz h4)).trans digs_zero; simp [go_sem, h5])) <| c_ mv_ <| c_ (bd0 ([bF, rS (nat ds) ((some ⟨g, 0, none⟩)) ds.length])) <| c_ (se_ 2 (hst := by exact fun _ _ _ hc => st42 rfl rfl rfl hc)) <| e_) (k := fun E7 ac wd h_7 => ?_)
  clear h_6
  refine then_n (wp_ret ?_)
  have s4 := h_7.g (t := 4) rfl
  have hc4 := (h_7.st.own 2 _ rfl).2
  have c4_0 := own_cell (o := 0) hc4 rfl
  have c4_1 := own_cell (o := 1) hc4 rfl
  refine leave (v := .agg #[.bool false, .slice ((some ⟨g, 0, none⟩)) ((digs (nat ds)).length) ds.length]) h_7.df (by simp [results, Tryz.results27, go_sem, Array.getD_eq_getD_getElem?, s4, c4_0, c4_1, Tryz.underlying42]) ?_
  have hT := h_7.st.nowT
  refine ⟨_, rfl, h_7.exOut.st.below, BigN.mk ?_ ?_ (RowN.trim hI.g ⟨OwnR.row (by omega) hT, OwnR.new hT _⟩)⟩
  · exact (decide_eq_false (by have := sg_diff (x := x) (y := y) (by omega); omega)).symm
  · exact hdig
  refine rf_ h_6 [[0],[0,1],[2],[2,3],r_ 5,r_ 6,r_ 7,r_ 8,r_ 9,r_ 10,[10],r_ 12,r_ 13] [K_ (vP (pb E1 0) 0), K_ bT, K_ (vP (pb E1 1) 0), K_ bF, K_ bT, K_ bT, K_ (rS (nat ds) ((some ⟨g, 0, none⟩)) ds.length), K_ (vN ((digs (nat ds)).length)), K_ bT, K_ bT, K_ (rS (nat ds) ((some ⟨g, 0, none⟩)) ds.length), K_ (.agg #[bT, rS (nat ds) ((some ⟨g, 0, none⟩)) ds.length]), none] (fun E7 => [(4, vP (pb E1 2) 0)]) (S := [⟨2, 12, fun _ => [bT, rS (nat ds) ((some ⟨g, 0, none⟩)) ds.length]⟩]) (M' := fun E7 => [((pb E1 0), 42, [bT, rS x A0 c0]), ((pb E1 1), 42, [bF, rS y B0 k0]), ((pb E1 2), 42, [bT, rS (nat ds) ((some ⟨g, 0, none⟩)) ds.length])]) (hs := c_ (fa0 (vP (pb E1 0) 0)) <| c_ (ld_ 0 (hrd := by exact rd4 rfl)) <| c_ (fa0 (vP (pb E1 1) 0)) <| c_ (ld_ 1 (hrd := by exact rd4 rfl)) <| c_ (bi0 bT bF) <| c_ mv_ <| c_ (gm0 (rS (nat ds) ((some ⟨g, 0, none⟩)) ds.length)) <| c_ (ln_ Tryz.underlying40 fun _ env _ wd hA => (Row.trim hI.g (OwnR.row (by omega) (hA.thO rfl))).els) <| c_ (bi0 (vN ((digs (nat ds)).length)) (vI 0) (h := by intro env w; have h5 : digs (nat ds) ≠ [] := fun e => hnz h4 (digs_nil.1 (by rw [e]; rfl)); first | (simp [go_sem]; done) | (simp [go_sem]; exact List.length_pos_iff.2 h5))) <| c_ (pk0 bT bT bF (h := by intro env w; have h5 : digs (nat ds) ≠ [] := fun e => hnz h4 (digs_nil.1 (by rw [e]; rfl)); first | (simp [go_sem]; done) | (simp [go_sem]; exact List.length_pos_iff.2 h5))) <| c_ mv_ <| c_ (bd0 ([bT, rS (nat ds) ((some ⟨g, 0, none⟩)) ds.length])) <| c_ (se_ 2 (hst := by exact fun _ _ _ hc => st42 rfl rfl rfl hc)) <| e_) (k := fun E7 ac wd h_7 => ?_)
  clear h_6
  refine then_n (wp_ret ?_)
  have s4 := h_7.g (t := 4) rfl
  have hc4 := (h_7.st.own 2 _ rfl).2
  have c4_0 := own_cell (o := 0) hc4 rfl
  have c4_1 := own_cell (o := 1) hc4 rfl
  refine leave (v := .agg #[.bool true, .slice ((some ⟨g, 0, none⟩)) ((digs (nat ds)).length) ds.length]) h_7.df (by simp [results, Tryz.results27, go_sem, Array.getD_eq_getD_getElem?, s4, c4_0, c4_1, Tryz.underlying42]) ?_
  have hT := h_7.st.nowT
  refine ⟨_, rfl, h_7.exOut.st.below, BigN.mk ?_ ?_ (RowN.trim hI.g ⟨OwnR.row (by omega) hT, OwnR.new hT _⟩)⟩
  · exact (decide_eq_true (by have := sg_diff (x := x) (y := y) (by omega); omega)).symm
  · exact hdig
  have h12 : y < 0 := of_decide_eq_true hq.symm
  refine rf_ h_6 [[0],[0,1],[2],[2,3],r_ 5,r_ 6,r_ 7,r_ 8,r_ 9,r_ 10,[10],r_ 12,r_ 13] [K_ (vP (pb E1 0) 0), K_ bT, K_ (vP (pb E1 1) 0), K_ bT, K_ bF, K_ bF, K_ undef, K_ undef, K_ undef, K_ bF, K_ (rS (nat ds) ((some ⟨g, 0, none⟩)) ds.length), K_ (.agg #[bF, rS (nat ds) ((some ⟨g, 0, none⟩)) ds.length]), none] (fun E7 => [(4, vP (pb E1 2) 0)]) (S := [⟨2, 12, fun _ => [bF, rS (nat ds) ((some ⟨g, 0, none⟩)) ds.length]⟩]) (M' := fun E7 => [((pb E1 0), 42, [bT, rS x A0 c0]), ((pb E1 1), 42, [bT, rS y B0 k0]), ((pb E1 2), 42, [bF, rS (nat ds) ((some ⟨g, 0, none⟩)) ds.length])]) (hs := c_ (fa0 (vP (pb E1 0) 0)) <| c_ (ld_ 0 (hrd := by exact rd4 rfl)) <| c_ (fa0 (vP (pb E1 1) 0)) <| c_ (ld_ 1 (hrd := by exact rd4 rfl)) <| c_ (bi0 bT bT) <| c_ mv_ <| c_ off_ <| c_ off_ <| c_ off_ <| c_ (pk0 bF undef bF) <| c_ mv_ <| c_ (bd0 ([bF, rS (nat ds) ((some ⟨g, 0, none⟩)) ds.length])) <| c_ (se_ 2 (hst := by exact fun _ _ _ hc => st42 rfl rfl rfl hc)) <| e_) (k := fun E7 ac wd h_7 => ?_)
  clear h_6
  refine then_n (wp_ret ?_)
  have s4 := h_7.g (t := 4) rfl
  have hc4 := (h_7.st.own 2 _ rfl).2
  have c4_0 := own_cell (o := 0) hc4 rfl
  have c4_1 := own_cell (o := 1) hc4 rfl
  refine leave (v := .agg #[.bool false, .slice ((some ⟨g, 0, none⟩)) ((digs (nat ds)).length) ds.length]) h_7.df (by simp [results, Tryz.results27, go_sem, Array.getD_eq_getD_getElem?, s4, c4_0, c4_1, Tryz.underlying42]) ?_
  have hT := h_7.st.nowT
  refine ⟨_, rfl, h_7.exOut.st.below, BigN.mk ?_ ?_ (RowN.trim hI.g ⟨OwnR.row (by omega) hT, OwnR.new hT _⟩)⟩
  · exact (decide_eq_false (by exact sg_same (by omega))).symm
  · exact hdig
set_option maxRecDepth 100000 in
set_option maxHeartbeats 8000000 in
theorem Pow2_any (w0 : World) (n : Nat) (hn : n ≤ 300) : Calls Tryz.prog 28 #[vI (((n : Nat) : Int))] w0 fun e w' => ∃ v, e = .returned v ∧ Below w0.heap.size w0 w' ∧ BigN w0.heap.size w' v (2 ^ n) := by
  have hst := St.start w0 (Θ := fun _ => True) (fun _ _ => trivial)
  refine enter Tryz.func28 rfl (n := 18) rfl (Nat.le_of_ble_eq_true rfl) hst (L := [(0, vI (((n : Nat) : Int)))]) (lk_args rfl) (fun ac h => ?_)
  refine wp_seq ?_
  refine rg_ h [[0]] [KE_ fun env => vP (pb env 0) 0] (fun E1 => [(0, vN n), (2, vP (pb E1 0) 0)]) (W := [{ i := 0, T := 42, c0 := [bF, .slice none 0 0] }]) (M' := fun E1 => [((pb E1 0), 42, [bF, .slice none 0 0])]) (hs := c_ (al_ 0) <| e_) (k := fun E1 ac wd h_1 => ?_)
  clear h
  refine then_n (wp_seq ?_)
  refine rg_ h_1 (tri 5) [K_ (vN n), K_ (vN (n / 16)), K_ (vI (((n / 16 : Nat) : Int) + 1)), KE_ fun env => .slice ((some ⟨(pb env 3), 0, none⟩)) ((n / 16 + 1)) ((n / 16 + 1)), KE_ fun env => .slice ((some ⟨(pb env 3), 0, none⟩)) ((n / 16 + 1)) ((n / 16 + 1))] (fun E2 => [(0, vN n), (2, vP (pb E1 0) 0), (3, .slice ((some ⟨(pb E2 3), 0, none⟩)) ((n / 16 + 1)) ((n / 16 + 1)))]) (th := (some (3, fun env w => OwnR w w0.heap.size (vG (pb env 3) (n / 16 + 1)) (List.replicate (n / 16 + 1) 0)))) (T := fun E2 => fun w => OwnR w w0.heap.size (vG (pb E2 3) (n / 16 + 1)) (List.replicate (n / 16 + 1) 0)) (hs := c_ mv_ <| c_ (bi0 (vN n) (vI 16) (h := by intro env w; (first | (simp [go_sem]; done) | (simp [go_sem]; rw [Int.tdiv_eq_ediv_of_nonneg (by omega)]; first | exact IntWalk.i64_in _ (by omega) | omega) | (simp [go_sem]; exact IntWalk.i64_in _ (by omega)) | (simp [go_sem]; rw [Int.tmod_eq_emod_of_nonneg (by omega)])))) <| c_ (bi0 (vN (n / 16)) (vI 1)) <| c_ (s_mk rfl rfl rfl rfl (n / 16 + 1) rfl rfl rfl (((n / 16 : Nat) : Int) + 1) (by omega) (by omega) (fun _ => rfl) (fun _ => rfl)) <| c_ mv_ <| e_) (k := fun E2 ac wd h_2 => ?_)
  clear h_1
  obtain ⟨g, hg⟩ : ∃ g, g = pb E2 3 := ⟨_, rfl⟩
  rw [← hg] at h_2
  replace h_2 := Cur.exIn h_2.facts (fun _ h => h)
  refine then_n (wp_seq ?_)
  refine rf_ h_2 [[0],[1],[1,2],[3],[3,4],[3,4,5],[3,4,5,6],r_ 8,r_ 9] [K_ (.slice ((some ⟨g, 0, none⟩)) ((n / 16 + 1)) ((n / 16 + 1))), K_ (vN n), K_ (vN (n / 16)), K_ (vN n), K_ (vN (n % 16)), K_ (.int .u64 (((n % 16 : Nat) : Int))), K_ (vI (2 ^ (n % 16))), K_ (elt (.slice ((some ⟨g, 0, none⟩)) ((n / 16 + 1)) ((n / 16 + 1))) (n / 16)), none] (fun E3 => [(2, vP (pb E1 0) 0), (3, .slice ((some ⟨g, 0, none⟩)) ((n / 16 + 1)) ((n / 16 + 1)))]) (th := (some (8, fun _ w => OwnR w w0.heap.size (vG g (n / 16 + 1)) ((List.replicate (n / 16 + 1) 0).set (n / 16) (2 ^ (n % 16)))))) (T := fun E3 => fun w => OwnR w w0.heap.size (vG g (n / 16 + 1)) ((List.replicate (n / 16 + 1) 0).set (n / 16) (2 ^ (n % 16)))) (hs := c_ mv_ <| c_ mv_ <| c_ (bi0 (vN n) (vI 16) (h := by intro env w; (first | (simp [go_sem]; done) | (simp [go_sem]; rw [Int.tdiv_eq_ediv_of_nonneg (by omega)]; first | exact IntWalk.i64_in _ (by omega) | omega) | (simp [go_sem]; exact IntWalk.i64_in _ (by omega)) | (simp [go_sem]; rw [Int.tmod_eq_emod_of_nonneg (by omega)])))) <| c_ mv_ <| c_ (bi0 (vN n) (vI 16) (h := by intro env w; (first | (simp [go_sem]; done) | (simp [go_sem]; rw [Int.tmod_eq_emod_of_nonneg (by omega)]; first | exact IntWalk.i64_in _ (by omega) | omega) | (simp [go_sem]; exact IntWalk.i64_in _ (by omega)) | (simp [go_sem]; rw [Int.tmod_eq_emod_of_nonneg (by omega)])))) <| c_ (cv0 (vN (n % 16)) (h := by intro env w; (first | (simp [go_sem]; done) | (simp [go_sem]; exact IntWalk.u64_in _ (by omega))))) <| c_ (bi0 (vI 1) (.int .u64 (((n % 16 : Nat) : Int))) (h := by intro env w; have hp := pow_16 n; simp [go_sem]; rw [show ((n : Int) % 16).toNat = n % 16 by omega]; exact IntWalk.i64_in _ (by omega))) <| c_ (ia_ Tryz.underlying40 sz3 (n / 16) (n / 16) ((n / 16 : Nat) : Int) (fun _ env _ wd hA => (OwnR.row (by (rw [List.length_replicate]; omega)) (hA.thO rfl)).els) (by omega) (by (rw [List.length_replicate]; omega)) (Nat.mul_one _)) <| c_ (s_sr rfl rfl rfl rfl rfl rfl rfl (fun _ h => h) (n / 16) (2 ^ (n % 16)) rfl (fun _ => rfl) (fun _ => rfl) (by (rw [List.length_replicate]; omega))) <| e_) (k := fun E3 ac wd h_3 => ?_)
  clear h_2
  refine then_n (wp_seq ?_)
  refine rf_ h_3 (tri 3) [K_ (.slice ((some ⟨g, 0, none⟩)) ((n / 16 + 1)) ((n / 16 + 1))), K_ (.agg #[bF, .slice ((some ⟨g, 0, none⟩)) ((n / 16 + 1)) ((n / 16 + 1))]), none] (fun E4 => [(2, vP (pb E1 0) 0)]) (S := [⟨0, 2, fun _ => [bF, .slice ((some ⟨g, 0, none⟩)) ((n / 16 + 1)) ((n / 16 + 1))]⟩]) (M' := fun E4 => [((pb E1 0), 42, [bF, .slice ((some ⟨g, 0, none⟩)) ((n / 16 + 1)) ((n / 16 + 1))])]) (hs := c_ mv_ <| c_ (bd0 ([.slice ((some ⟨g, 0, none⟩)) ((n / 16 + 1)) ((n / 16 + 1))])) <| c_ (se_ 0 (hst := by exact fun _ _ _ hc => st42 rfl rfl rfl hc)) <| e_) (k := fun E4 ac wd h_4 => ?_)
  clear h_3
  refine then_n (wp_ret ?_)
  have s2 := h_4.g (t := 2) rfl
  have hc2 := (h_4.st.own 0 _ rfl).2
  have c2_0 := own_cell (o := 0) hc2 rfl
  have c2_1 := own_cell (o := 1) hc2 rfl
  refine leave (v := .agg #[.bool false, .slice ((some ⟨g, 0, none⟩)) ((n / 16 + 1)) ((n / 16 + 1))]) h_4.df (by simp [results, Tryz.results28, go_sem, Array.getD_eq_getD_getElem?, s2, c2_0, c2_1, Tryz.underlying42]) ?_
  have hT := h_4.st.nowT
  have hl : (digs (2 ^ n)).length = n / 16 + 1 := by rw [pow2_digs, List.length_set, List.length_replicate]
  rw [← pow2_digs, ← hl] at hT
  refine ⟨_, rfl, h_4.exOut.st.below, ?_⟩
  rw [← hl]
  exact BigN.mk (decide_eq_false (by have : (0 : Int) < 2 ^ n := Int.pow_pos (by decide); omega)).symm rfl ⟨OwnR.row (by omega) hT, OwnR.new hT _⟩
end Go.Proofs.YtibdhpffdkiggaaGreat

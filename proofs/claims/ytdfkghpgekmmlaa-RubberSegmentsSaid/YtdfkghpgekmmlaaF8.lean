/- epactref01: Div (printed by my walk.py) -/
import Derived.Test.YtdfkghpgekmmlaaE9
import Derived.Test.YtdfkghpgekmmlaaL9
import Derived.Test.YtdfkghpgekmmlaaP3
import Derived.Test.YtdfkghpgekmmlaaM0
import Derived.Test.YtdfkghpgekmmlaaM3
import Derived.IntWalk
namespace Go.Proofs.Ytdfkghpgekmmlaa
open Go.RowKit
set_option linter.unusedVariables false
set_option linter.unusedSimpArgs false
attribute [local go_sem] vN bT bF rS vW vM vL vT2 vT3 vP vI execOp Act.eval evC bigF vB hi_zero lo_zero Try.underlying3 Try.underlying37 Try.underlying46

theorem trim_eq (w0 : World) (A : Option Addr) (c : Nat) (ds : List Int) (m : Int) (hm : nat ds = m) (hr : Row w0 (.slice A ds.length c) ds) (hg : Rg ds) : Calls Try.prog 54 #[.slice A ds.length c] w0 fun e w' => e = .returned (.slice A (digs m).length c) ∧ Below w0.heap.size w0 w' := by
  subst hm
  exact trim_core w0 A c ds hr hg
theorem Row.trimE {w : World} {A : Option Addr} {c : Nat} {ds : List Int} {m : Int} (hg : Rg ds) (hm : nat ds = m) (h : Row w (.slice A ds.length c) ds) : Row w (.slice A (digs m).length c) (digs m) := by
  subst hm
  exact Row.trim hg h
theorem BigX.ofRow {w : World} {b : Bool} {A : Option Addr} {c : Nat} {z z' : Int} (hb : b = decide (z' < 0)) (hd : digs z = digs z') (h : Row w (.slice A (digs z).length c) (digs z)) : BigX none w (.agg #[.bool b, .slice A (digs z).length c]) z' := by
  subst hb
  rw [hd] at h ⊢
  exact ⟨A, c, rfl, h, Off.none _⟩
set_option maxRecDepth 100000 in
set_option maxHeartbeats 8000000 in
theorem Div_any (w0 : World) (p : Bool) (A0 : Option Addr) (c0 : Nat) (x : Int) (hp : p = decide (x < 0)) (hr : Row w0 (.slice A0 (digs x).length c0) (digs x)) (hx : Sm x) (q : Bool) (B0 : Option Addr) (k0 : Nat) (y : Int) (hq : q = decide (y < 0)) (hr2 : Row w0 (.slice B0 (digs y).length k0) (digs y)) (hy : Sm y) (hy0 : 0 < y) : Calls Try.prog 49 #[.agg #[.bool (p), .slice A0 ((digs x).length) c0], .agg #[.bool (q), .slice B0 ((digs y).length) k0]] w0 fun e w' => ∃ v1 v2, e = .returned (.tuple #[v1, v2]) ∧ Below w0.heap.size w0 w' ∧ BigX none w' v1 (x / y) ∧ BigX none w' v2 (x % y) := by
  have hlx := hx.len
  have hly := hy.len
  have hst := St.start w0 (Θ := fun _ => True) (fun _ _ => trivial)
  refine en_ Try.func49 hst 75 [(0, .agg #[.bool (p), .slice A0 ((digs x).length) c0]), (1, .agg #[.bool (q), .slice B0 ((digs y).length) k0])] (fun ac h => ?_)
  replace h := h.facts
  refine wp_seq ?_
  refine rf_ h [[0],[1],[2],[3]] [KE_ fun env => vP (pb env 0) 0, KE_ fun env => vP (pb env 1) 0, KE_ fun env => vP (pb env 2) 0, KE_ fun env => vP (pb env 3) 0] (fun E1 => [(2, vP (pb E1 0) 0), (3, vP (pb E1 1) 0), (4, vP (pb E1 2) 0), (5, vP (pb E1 3) 0)]) (W := [{ i := 0, T := 46, c0 := [.bool (p), .slice A0 ((digs x).length) c0] }, { i := 1, T := 46, c0 := [.bool (q), .slice B0 ((digs y).length) k0] }, { i := 2, T := 46, c0 := [bF, .slice none 0 0] }, { i := 3, T := 46, c0 := [bF, .slice none 0 0] }]) (M' := fun E1 => [((pb E1 0), 46, [.bool (p), .slice A0 ((digs x).length) c0]), ((pb E1 1), 46, [.bool (q), .slice B0 ((digs y).length) k0]), ((pb E1 2), 46, [bF, .slice none 0 0]), ((pb E1 3), 46, [bF, .slice none 0 0])]) (hs := c_ (bx0 0 (.agg #[.bool (p), .slice A0 ((digs x).length) c0])) <| c_ (bx0 1 (.agg #[.bool (q), .slice B0 ((digs y).length) k0])) <| c_ (al_ 2) <| c_ (al_ 3) <| e_) (k := fun E1 ac wd h_1 => ?_)
  clear h
  refine then_n (wp_seq ?_)
  refine rf_ h_1 (tri 5) [K_ (vP (pb E1 0) 1), K_ (.slice A0 ((digs x).length) c0), K_ (vN ((digs x).length)), KE_ fun env => .slice ((some ⟨(pb env 3), 0, none⟩)) ((digs x).length) ((digs x).length), KE_ fun env => .slice ((some ⟨(pb env 3), 0, none⟩)) ((digs x).length) ((digs x).length)] (fun E2 => [(2, vP (pb E1 0) 0), (3, vP (pb E1 1) 0), (4, vP (pb E1 2) 0), (5, vP (pb E1 3) 0), (6, .slice ((some ⟨(pb E2 3), 0, none⟩)) ((digs x).length) ((digs x).length))]) (th := (some (3, fun env w => OwnR w w0.heap.size (vG (pb env 3) ((digs x).length)) (List.replicate ((digs x).length) 0)))) (T := fun E2 => fun w => OwnR w w0.heap.size (vG (pb E2 3) ((digs x).length)) (List.replicate ((digs x).length) 0)) (hs := c_ (fa0 (vP (pb E1 0) 0)) <| c_ (ld_ 0 (hrd := by exact rd44 rfl)) <| c_ (ln_ Try.underlying44 fun _ env _ wd hA => (hr.grown hA.j.st.gr).els) <| c_ (s_mk rfl rfl rfl rfl ((digs x).length) rfl rfl rfl ((digs x).length : Int) (rfl) (by omega) (fun _ => rfl) (fun _ => rfl)) <| c_ mv_ <| e_) (k := fun E2 ac wd h_2 => ?_)
  clear h_1
  obtain ⟨g, hg⟩ : ∃ g, g = pb E2 3 := ⟨_, rfl⟩
  rw [← hg] at h_2
  replace h_2 := Cur.exIn h_2 (fun _ h => h)
  refine then_n (wp_seq ?_)
  refine rf_ h_2 [[0]] [K_ (.slice none 0 0)] (fun E3 => [(2, vP (pb E1 0) 0), (3, vP (pb E1 1) 0), (4, vP (pb E1 2) 0), (5, vP (pb E1 3) 0), (6, .slice ((some ⟨g, 0, none⟩)) ((digs x).length) ((digs x).length)), (7, .slice none 0 0)]) (hs := c_ mv_ <| e_) (k := fun E3 ac wd h_3 => ?_)
  clear h_2
  refine then_n (wp_seq (wp_seq ?_))
  refine rf_ h_3 (tri 5) [K_ (vP (pb E1 0) 1), K_ (.slice A0 ((digs x).length) c0), K_ (vN ((digs x).length)), K_ (vI ((((digs x).length : Nat) : Int) - 1)), K_ (vI ((((digs x).length : Nat) : Int) - 1))] (fun E4 => [(2, vP (pb E1 0) 0), (3, vP (pb E1 1) 0), (4, vP (pb E1 2) 0), (5, vP (pb E1 3) 0), (6, .slice ((some ⟨g, 0, none⟩)) ((digs x).length) ((digs x).length)), (7, .slice none 0 0), (8, vI ((((digs x).length : Nat) : Int) - 1))]) (hs := c_ (fa0 (vP (pb E1 0) 0)) <| c_ (ld_ 0 (hrd := by exact rd44 rfl)) <| c_ (ln_ Try.underlying44 fun _ env _ wd hA => (hr.grown hA.j.st.gr).els) <| c_ (bi0 (vN ((digs x).length)) (vI 1)) <| c_ mv_ <| e_) (k := fun E4 ac wd h_4 => ?_)
  clear h_3
  refine then_n (wp_block ?_)
  refine wp_loop (fun ac wd => ∃ (rv : Value) (qs : List Int) (rr : Int) (k : Nat), DivI (digs x) qs y rr k ∧ Cur 75 w0 none (some g) (Facts [fun w => RowX (some g) w rv (digs rr)]) (fun w => OwnR w w0.heap.size (vG g (digs x).length) qs) [(2, vP (pb E1 0) 0), (3, vP (pb E1 1) 0), (4, vP (pb E1 2) 0), (5, vP (pb E1 3) 0), (6, .slice ((some ⟨g, 0, none⟩)) ((digs x).length) ((digs x).length)), (7, .slice ((sA rv)) ((digs rr).length) ((sC rv))), (8, vI (((k : Nat) : Int) - 1))] [((pb E1 0), 46, [.bool (p), .slice A0 ((digs x).length) c0]), ((pb E1 1), 46, [.bool (q), .slice B0 ((digs y).length) k0]), ((pb E1 2), 46, [bF, .slice none 0 0]), ((pb E1 3), 46, [bF, .slice none 0 0])] ac wd) (fun ac _ => (sI ac 8 + 1).toNat) ⟨.slice none 0 0, _, 0, _, DivI.start _ hy0, by rw [digs_zero]; exact h_4.nilRow.re rfl⟩ ?_
  rintro ac wd ⟨rv, qs, rr, k, hI, h_5⟩
  clear h_4
  have hmu : sI ac 8 = ((k : Nat) : Int) - 1 := sI_eq (h_5.g (t := 8) rfl)
  have hIl := hI.l
  have hIk := hI.hk
  refine wp_seq (wp_seq ?_)
  rcases Nat.eq_zero_or_pos k with h0 | h0
  subst h0
  refine rf_ h_5 [[0],[0,1]] [K_ (vI (((0 : Nat) : Int) - 1)), K_ bF] (fun E6 => [(2, vP (pb E1 0) 0), (3, vP (pb E1 1) 0), (4, vP (pb E1 2) 0), (5, vP (pb E1 3) 0), (6, .slice ((some ⟨g, 0, none⟩)) ((digs x).length) ((digs x).length)), (7, .slice ((sA rv)) ((digs rr).length) ((sC rv))), (8, vI (((0 : Nat) : Int) - 1)), (19, vI (((0 : Nat) : Int) - 1)), (20, bF)]) (hs := c_ mv_ <| c_ (bi0 (vI (((0 : Nat) : Int) - 1)) (vI 0)) <| e_) (k := fun E6 ac wd h_6 => ?_)
  clear h_5
  refine then_n ?_
  refine cF_ h_6 ?_
  refine wp_exit (then_e (then_e (blk_x (then_n (wp_seq ?_)))))
  replace h_6 := h_6.exOut
  rw [← hIl] at h_6
  refine rf_ h_6 [[0],[0,1],[0,1,2],[3],[3,4],[5],[6],[0,1,2,5,6,7],r_ 9] [K_ (.slice ((some ⟨g, 0, none⟩)) qs.length qs.length), K_ (.slice ((some ⟨g, 0, none⟩)) ((digs (nat qs)).length) qs.length), K_ (.agg #[bF, .slice ((some ⟨g, 0, none⟩)) ((digs (nat qs)).length) qs.length]), K_ (.slice ((sA rv)) ((digs rr).length) ((sC rv))), K_ (.agg #[bF, .slice ((sA rv)) ((digs rr).length) ((sC rv))]), KE_ fun env => vP (pb env 5) 0, KE_ fun env => vP (pb env 6) 0, none, none] (fun E7 => [(2, vP (pb E1 0) 0), (3, vP (pb E1 1) 0), (4, vP (pb E1 2) 0), (5, vP (pb E1 3) 0), (7, .slice ((sA rv)) ((digs rr).length) ((sC rv))), (9, vP (pb E7 5) 0), (10, vP (pb E7 6) 0)]) (W := [{ i := 5, T := 46, c0 := [bF, .slice none 0 0], s := some 7, c1 := fun _ => [bF, .slice ((some ⟨g, 0, none⟩)) ((digs (nat qs)).length) qs.length] }, { i := 6, T := 46, c0 := [bF, .slice none 0 0], s := some 8, c1 := fun _ => [bF, .slice ((sA rv)) ((digs rr).length) ((sC rv))] }]) (M' := fun E7 => [((pb E1 0), 46, [.bool (p), .slice A0 qs.length c0]), ((pb E1 1), 46, [.bool (q), .slice B0 ((digs y).length) k0]), ((pb E1 2), 46, [bF, .slice none 0 0]), ((pb E1 3), 46, [bF, .slice none 0 0]), ((pb E7 5), 46, [bF, .slice ((some ⟨g, 0, none⟩)) ((digs (nat qs)).length) qs.length]), ((pb E7 6), 46, [bF, .slice ((sA rv)) ((digs rr).length) ((sC rv))])]) (hs := c_ mv_ <| c_ (cw_ Try.func54 (h := fun _ env _ wd hA => ⟨_, trim_core wd (some ⟨g, 0, none⟩) qs.length qs (OwnR.row (by omega) (hA.thO rfl)) hI.g, rfl⟩)) <| c_ (bd0 ([.slice ((some ⟨g, 0, none⟩)) ((digs (nat qs)).length) qs.length])) <| c_ mv_ <| c_ (bd0 ([.slice ((sA rv)) ((digs rr).length) ((sC rv))])) <| c_ (al_ 4) <| c_ (al_ 5) <| c_ (sw_ 4 5 (hst := by exact fun _ _ _ hc => st46 rfl rfl rfl hc)) <| c_ (sw_ 5 6 (hst := by exact fun _ _ _ hc => st46 rfl rfl rfl hc)) <| e_) (k := fun E7 ac wd h_7 => ?_)
  clear h_6
  refine then_n (wp_seq (wp_seq ?_))
  have hDD := hI.done
  rw [nat_digs] at hDD
  have r0e := hI.r0
  have r1e := hI.r1
  have hQ0 := nat_nonneg hI.g
  have hQ1 : nat qs ≤ (x.natAbs : Int) := by rw [hDD.1]; exact Int.ediv_le_self _ (by omega)
  have hqs : Sm (nat qs) := by unfold Sm at *; omega
  have hrs : Sm rr := by unfold Sm at *; omega
  cases p
  have hx0 : 0 ≤ x := by have := of_decide_eq_false hp.symm; omega
  refine rf_ h_7 (tri 3) [K_ (vP (pb E1 0) 0), K_ bF, K_ bT] (fun E8 => [(3, vP (pb E1 1) 0), (4, vP (pb E1 2) 0), (5, vP (pb E1 3) 0), (7, .slice ((sA rv)) ((digs rr).length) ((sC rv))), (9, vP (pb E7 5) 0), (10, vP (pb E7 6) 0), (59, bT)]) (hs := c_ (fa0 (vP (pb E1 0) 0)) <| c_ (ld_ 0 (hrd := by exact rd4 rfl)) <| c_ (un0 bF) <| e_) (k := fun E8 ac wd h_8 => ?_)
  clear h_7
  refine then_n ?_
  refine cT_ h_8 ?_
  refine wp_seq ?_
  refine rf_ h_8 [[0],[1],[0,2],r_ 4] [K_ (.agg #[bF, .slice ((some ⟨g, 0, none⟩)) ((digs (nat qs)).length) qs.length]), K_ (.agg #[bF, .slice ((sA rv)) ((digs rr).length) ((sC rv))]), none, none] (fun E9 => [(3, vP (pb E1 1) 0), (4, vP (pb E1 2) 0), (5, vP (pb E1 3) 0), (7, .slice ((sA rv)) ((digs rr).length) ((sC rv))), (9, vP (pb E7 5) 0), (10, vP (pb E7 6) 0)]) (S := [⟨2, 2, fun _ => [bF, .slice ((some ⟨g, 0, none⟩)) ((digs (nat qs)).length) qs.length]⟩, ⟨3, 3, fun _ => [bF, .slice ((sA rv)) ((digs rr).length) ((sC rv))]⟩]) (M' := fun E9 => [((pb E1 0), 46, [bF, .slice A0 qs.length c0]), ((pb E1 1), 46, [.bool (q), .slice B0 ((digs y).length) k0]), ((pb E1 2), 46, [bF, .slice ((some ⟨g, 0, none⟩)) ((digs (nat qs)).length) qs.length]), ((pb E1 3), 46, [bF, .slice ((sA rv)) ((digs rr).length) ((sC rv))]), ((pb E7 5), 46, [bF, .slice ((some ⟨g, 0, none⟩)) ((digs (nat qs)).length) qs.length]), ((pb E7 6), 46, [bF, .slice ((sA rv)) ((digs rr).length) ((sC rv))])]) (hs := c_ (ld_ 4 (hrd := by exact rd46 rfl rfl)) <| c_ (ld_ 5 (hrd := by exact rd46 rfl rfl)) <| c_ (se_ 2 (hst := by exact fun _ _ _ hc => st46 rfl rfl rfl hc)) <| c_ (se_ 3 (hst := by exact fun _ _ _ hc => st46 rfl rfl rfl hc)) <| e_) (k := fun E9 ac wd h_9 => ?_)
  clear h_8
  refine then_n (wp_ret (then_ret ?_))
  have s4 := h_9.g (t := 4) rfl
  have hc4 := (h_9.st.own 2 _ rfl).2
  have c4_0 := own_cell (o := 0) hc4 rfl
  have c4_1 := own_cell (o := 1) hc4 rfl
  have s5 := h_9.g (t := 5) rfl
  have hc5 := (h_9.st.own 3 _ rfl).2
  have c5_0 := own_cell (o := 0) hc5 rfl
  have c5_1 := own_cell (o := 1) hc5 rfl
  refine leave (v := vT2 (.agg #[.bool false, .slice ((some ⟨g, 0, none⟩)) ((digs (nat qs)).length) qs.length]) (.agg #[.bool false, .slice ((sA rv)) ((digs rr).length) ((sC rv))])) h_9.df (by simp [results, Try.results49, go_sem, Array.getD_eq_getD_getElem?, s4, c4_0, c4_1, Try.underlying46, s5, c5_0, c5_1, Try.underlying46]) ?_
  have e1 : nat qs = x / y := by rw [hDD.1]; congr 1; omega
  have e2 : rr = x % y := by rw [hDD.2]; congr 1; omega
  exact ⟨_, _, rfl, h_9.st.below, BigX.ofRow (decide_eq_false (by rw [← e1]; omega)).symm (congrArg digs e1) (Row.trim hI.g (OwnR.row (by omega) h_9.st.nowT)), BigX.ofRow (decide_eq_false (by rw [← e2]; omega)).symm (congrArg digs e2) (Facts.row h_9.st.now 0 rfl)⟩
  have hx0 : x < 0 := of_decide_eq_true hp.symm
  refine rf_ h_7 (tri 3) [K_ (vP (pb E1 0) 0), K_ bT, K_ bF] (fun E8 => [(3, vP (pb E1 1) 0), (4, vP (pb E1 2) 0), (5, vP (pb E1 3) 0), (7, .slice ((sA rv)) ((digs rr).length) ((sC rv))), (9, vP (pb E7 5) 0), (10, vP (pb E7 6) 0), (59, bF)]) (hs := c_ (fa0 (vP (pb E1 0) 0)) <| c_ (ld_ 0 (hrd := by exact rd4 rfl)) <| c_ (un0 bT) <| e_) (k := fun E8 ac wd h_8 => ?_)
  clear h_7
  refine then_n ?_
  refine cF_ h_8 ?_
  refine wp_skip (then_n (wp_seq ?_))
  refine rf_ h_8 (tri 3) [K_ (.agg #[bF, .slice ((some ⟨g, 0, none⟩)) ((digs (nat qs)).length) qs.length]), K_ (.agg #[.bool (decide (-(nat qs) < 0)), .slice ((some ⟨g, 0, none⟩)) ((digs (-(nat qs))).length) qs.length]), none] (fun E9 => [(3, vP (pb E1 1) 0), (4, vP (pb E1 2) 0), (5, vP (pb E1 3) 0), (7, .slice ((sA rv)) ((digs rr).length) ((sC rv))), (9, vP (pb E7 5) 0), (10, vP (pb E7 6) 0)]) (S := [⟨4, 2, fun _ => [.bool (decide (-(nat qs) < 0)), .slice ((some ⟨g, 0, none⟩)) ((digs (-(nat qs))).length) qs.length]⟩]) (M' := fun E9 => [((pb E1 0), 46, [bT, .slice A0 qs.length c0]), ((pb E1 1), 46, [.bool (q), .slice B0 ((digs y).length) k0]), ((pb E1 2), 46, [bF, .slice none 0 0]), ((pb E1 3), 46, [bF, .slice none 0 0]), ((pb E7 5), 46, [.bool (decide (-(nat qs) < 0)), .slice ((some ⟨g, 0, none⟩)) ((digs (-(nat qs))).length) qs.length]), ((pb E7 6), 46, [bF, .slice ((sA rv)) ((digs rr).length) ((sC rv))])]) (hs := c_ (ld_ 4 (hrd := by exact rd46 rfl rfl)) <| c_ (cw_ Try.func48 (h := fun _ env _ wd hA => ⟨_, Neg_any wd false (some ⟨g, 0, none⟩) qs.length (nat qs) (decide_eq_false (by omega)).symm (Row.trim hI.g (OwnR.row (by omega) (hA.thO rfl))), rfl⟩)) <| c_ (se_ 4 (hst := by exact fun _ _ _ hc => st46 rfl rfl rfl hc)) <| e_) (k := fun E9 ac wd h_9 => ?_)
  clear h_8
  refine then_n (wp_seq (wp_seq ?_))
  by_cases h0 : rr = 0
  refine rf_ h_9 (tri 3) [K_ (.slice ((sA rv)) ((digs rr).length) ((sC rv))), K_ (vN ((digs rr).length)), K_ bT] (fun E10 => [(3, vP (pb E1 1) 0), (4, vP (pb E1 2) 0), (5, vP (pb E1 3) 0), (9, vP (pb E7 5) 0), (10, vP (pb E7 6) 0), (66, bT)]) (hs := c_ mv_ <| c_ (ln_ Try.underlying44 fun _ env _ wd hA => (Facts.row (hA.j.st.now).1 0 rfl).els) <| c_ (bi0 (vN ((digs rr).length)) (vI 0) (h := by intro env w; have h3 : digs rr = [] := (congrArg digs h0).trans digs_zero; simp [go_sem, h3])) <| e_) (k := fun E10 ac wd h_10 => ?_)
  clear h_9
  refine then_n ?_
  refine cT_ h_10 ?_
  refine wp_seq ?_
  refine rf_ h_10 [[0],[1],[0,2],r_ 4] [K_ (.agg #[.bool (decide (-(nat qs) < 0)), .slice ((some ⟨g, 0, none⟩)) ((digs (-(nat qs))).length) qs.length]), K_ (.agg #[bF, .slice ((sA rv)) ((digs rr).length) ((sC rv))]), none, none] (fun E11 => [(3, vP (pb E1 1) 0), (4, vP (pb E1 2) 0), (5, vP (pb E1 3) 0), (9, vP (pb E7 5) 0), (10, vP (pb E7 6) 0)]) (S := [⟨2, 2, fun _ => [.bool (decide (-(nat qs) < 0)), .slice ((some ⟨g, 0, none⟩)) ((digs (-(nat qs))).length) qs.length]⟩, ⟨3, 3, fun _ => [bF, .slice ((sA rv)) ((digs rr).length) ((sC rv))]⟩]) (M' := fun E11 => [((pb E1 0), 46, [bT, .slice A0 qs.length c0]), ((pb E1 1), 46, [.bool (q), .slice B0 ((digs y).length) k0]), ((pb E1 2), 46, [.bool (decide (-(nat qs) < 0)), .slice ((some ⟨g, 0, none⟩)) ((digs (-(nat qs))).length) qs.length]), ((pb E1 3), 46, [bF, .slice ((sA rv)) ((digs rr).length) ((sC rv))]), ((pb E7 5), 46, [.bool (decide (-(nat qs) < 0)), .slice ((some ⟨g, 0, none⟩)) ((digs (-(nat qs))).length) qs.length]), ((pb E7 6), 46, [bF, .slice ((sA rv)) ((digs rr).length) ((sC rv))])]) (hs := c_ (ld_ 4 (hrd := by exact rd46 rfl rfl)) <| c_ (ld_ 5 (hrd := by exact rd46 rfl rfl)) <| c_ (se_ 2 (hst := by exact fun _ _ _ hc => st46 rfl rfl rfl hc)) <| c_ (se_ 3 (hst := by exact fun _ _ _ hc => st46 rfl rfl rfl hc)) <| e_) (k := fun E11 ac wd h_11 => ?_)
  clear h_10
  refine then_n (wp_ret (then_ret ?_))
  have s4 := h_11.g (t := 4) rfl
  have hc4 := (h_11.st.own 2 _ rfl).2
  have c4_0 := own_cell (o := 0) hc4 rfl
  have c4_1 := own_cell (o := 1) hc4 rfl
  have s5 := h_11.g (t := 5) rfl
  have hc5 := (h_11.st.own 3 _ rfl).2
  have c5_0 := own_cell (o := 0) hc5 rfl
  have c5_1 := own_cell (o := 1) hc5 rfl
  refine leave (v := vT2 (.agg #[.bool (decide (-(nat qs) < 0)), .slice ((some ⟨g, 0, none⟩)) ((digs (-(nat qs))).length) qs.length]) (.agg #[.bool false, .slice ((sA rv)) ((digs rr).length) ((sC rv))])) h_11.df (by simp [results, Try.results49, go_sem, Array.getD_eq_getD_getElem?, s4, c4_0, c4_1, Try.underlying46, s5, c5_0, c5_1, Try.underlying46]) ?_
  have hX : x = -(nat qs * y + rr) := by have h1 := Int.mul_ediv_add_emod (x.natAbs : Int) y; rw [← hDD.1, ← hDD.2, Int.mul_comm] at h1; omega
  have e1 : -(nat qs) = x / y := by rw [hX, h0, show -(nat qs * y + 0) = -(nat qs) * y by rw [Int.neg_mul]; omega, Int.mul_ediv_cancel _ (by omega)]
  have e2 : rr = x % y := by rw [hX, h0, show -(nat qs * y + 0) = -(nat qs) * y by rw [Int.neg_mul]; omega, Int.mul_emod_left]
  exact ⟨_, _, rfl, h_11.st.below, BigX.ofRow (by rw [e1]) (congrArg digs e1) (Row.neg (Row.trim hI.g (OwnR.row (by omega) h_11.st.nowT))), BigX.ofRow (decide_eq_false (by rw [← e2]; omega)).symm (congrArg digs e2) (Facts.row h_11.st.now 0 rfl)⟩
  refine rf_ h_9 (tri 3) [K_ (.slice ((sA rv)) ((digs rr).length) ((sC rv))), K_ (vN ((digs rr).length)), K_ bF] (fun E10 => [(3, vP (pb E1 1) 0), (4, vP (pb E1 2) 0), (5, vP (pb E1 3) 0), (9, vP (pb E7 5) 0), (10, vP (pb E7 6) 0), (66, bF)]) (hs := c_ mv_ <| c_ (ln_ Try.underlying44 fun _ env _ wd hA => (Facts.row (hA.j.st.now).1 0 rfl).els) <| c_ (bi0 (vN ((digs rr).length)) (vI 0) (h := by intro env w; have h3 : digs rr ≠ [] := fun e => h0 (digs_nil.1 (by rw [e]; rfl)); simp [go_sem, h3])) <| e_) (k := fun E10 ac wd h_10 => ?_)
  clear h_9
  refine then_n ?_
  refine cF_ h_10 ?_
  refine wp_skip (then_n (wp_seq ?_))
  refine rf_ h_10 [[0],[1],[0,1,2],[3],[4],r_ 6,r_ 7,r_ 8] [K_ (.agg #[.bool (decide (-(nat qs) < 0)), .slice ((some ⟨g, 0, none⟩)) ((digs (-(nat qs))).length) qs.length]), KE_ fun env => bigF 1 (env 1), KE_ fun env => bigF (-(nat qs) - 1) (env 2), K_ (.agg #[.bool (q), .slice B0 ((digs y).length) k0]), K_ (.agg #[bF, .slice ((sA rv)) ((digs rr).length) ((sC rv))]), KE_ fun env => bigF (y - rr) (env 5), none, none] (fun E11 => [(4, vP (pb E1 2) 0), (5, vP (pb E1 3) 0)]) (S := [⟨2, 6, fun env => [.bool (decide (-(nat qs) - 1 < 0)), .slice ((bA (env 2))) ((digs (-(nat qs) - 1)).length) ((bC (env 2)))]⟩, ⟨3, 7, fun env => [.bool (decide (y - rr < 0)), .slice ((bA (env 5))) ((digs (y - rr)).length) ((bC (env 5)))]⟩]) (F := [(1, fun env w => BigN w0.heap.size w (env 1) 1), (2, fun env w => BigN w0.heap.size w (env 2) (-(nat qs) - 1)), (5, fun env w => BigN w0.heap.size w (env 5) (y - rr))]) (L1 := fun E11 => [fun w => RowX (some g) w rv (digs rr), fun w => BigN w0.heap.size w (E11 1) 1, fun w => BigN w0.heap.size w (E11 2) (-(nat qs) - 1), fun w => BigN w0.heap.size w (E11 5) (y - rr)]) (M' := fun E11 => [((pb E1 0), 46, [bT, .slice A0 qs.length c0]), ((pb E1 1), 46, [.bool (q), .slice B0 ((digs y).length) k0]), ((pb E1 2), 46, [.bool (decide (-(nat qs) - 1 < 0)), .slice ((bA (E11 2))) ((digs (-(nat qs) - 1)).length) ((bC (E11 2)))]), ((pb E1 3), 46, [.bool (decide (y - rr < 0)), .slice ((bA (E11 5))) ((digs (y - rr)).length) ((bC (E11 5)))]), ((pb E7 5), 46, [.bool (decide (-(nat qs) < 0)), .slice ((some ⟨g, 0, none⟩)) ((digs (-(nat qs))).length) qs.length]), ((pb E7 6), 46, [bF, .slice ((sA rv)) ((digs rr).length) ((sC rv))])]) (hs := c_ (ld_ 4 (hrd := by exact rd46 rfl rfl)) <| c_ (cb_ Try.func36 1 (h := fun _ env _ wd hA => ⟨_, Word_any wd 1 (by omega) (by omega), rfl⟩)) <| c_ (cb_ Try.func51 (-(nat qs) - 1) (h := fun _ env _ wd hA => ⟨_, Sub_any wd (decide (-(nat qs) < 0)) (some ⟨g, 0, none⟩) qs.length (-(nat qs)) rfl (Row.neg (Row.trim hI.g (OwnR.row (by omega) (hA.thO rfl)))) hqs.neg (decide (1 < 0)) (bA (env 1)) (bC (env 1)) 1 rfl (At.bigN hA 1 rfl rfl rfl) (by unfold Sm; omega), rfl⟩)) <| c_ (ld_ 1 (hrd := by exact rd46 rfl rfl)) <| c_ (ld_ 5 (hrd := by exact rd46 rfl rfl)) <| c_ (cb_ Try.func51 (y - rr) (h := fun _ env _ wd hA => ⟨_, Sub_any wd q B0 k0 y hq (hr2.grown hA.j.st.gr) hy false (sA rv) (sC rv) rr (decide_eq_false (by omega)).symm (Facts.row (hA.j.st.now).1 0 rfl) hrs, rfl⟩)) <| c_ (se_ 2 (hst := by exact fun _ _ _ hc => st46 rfl rfl rfl hc)) <| c_ (se_ 3 (hst := by exact fun _ _ _ hc => st46 rfl rfl rfl hc)) <| e_) (k := fun E11 ac wd h_11 => ?_)
  clear h_10
  refine then_n (wp_ret ?_)
  have s4 := h_11.g (t := 4) rfl
  have hc4 := (h_11.st.own 2 _ rfl).2
  have c4_0 := own_cell (o := 0) hc4 rfl
  have c4_1 := own_cell (o := 1) hc4 rfl
  have s5 := h_11.g (t := 5) rfl
  have hc5 := (h_11.st.own 3 _ rfl).2
  have c5_0 := own_cell (o := 0) hc5 rfl
  have c5_1 := own_cell (o := 1) hc5 rfl
  refine leave (v := vT2 (bigF (-(nat qs) - 1) (E11 2)) (bigF (y - rr) (E11 5))) h_11.df (by simp [results, Try.results49, go_sem, Array.getD_eq_getD_getElem?, s4, c4_0, c4_1, Try.underlying46, s5, c5_0, c5_1, Try.underlying46]) ?_
  have hX : x = -(nat qs * y + rr) := by have h1 := Int.mul_ediv_add_emod (x.natAbs : Int) y; rw [← hDD.1, ← hDD.2, Int.mul_comm] at h1; omega
  have e0 : x = (y - rr) + (-(nat qs) - 1) * y := by rw [hX, Int.sub_mul, Int.neg_mul]; omega
  have e1 : -(nat qs) - 1 = x / y := by rw [e0, Int.add_mul_ediv_right _ _ (by omega), Int.ediv_eq_zero_of_lt (by omega) (by omega)]; omega
  have e2 : y - rr = x % y := by rw [e0, Int.add_mul_emod_self_right, Int.emod_eq_of_lt (by omega) (by omega)]
  exact ⟨_, _, rfl, h_11.st.below, BigX.ofRow (by rw [e1]) (congrArg digs e1) (Facts.bigN h_11.st.now 2 rfl), BigX.ofRow (by rw [e2]) (congrArg digs e2) (Facts.bigN h_11.st.now 3 rfl)⟩
  obtain ⟨j, rfl⟩ : ∃ j, k = j + 1 := ⟨k - 1, by omega⟩
  refine rf_ h_5 [[0],[0,1]] [K_ (vI ((((j + 1) : Nat) : Int) - 1)), K_ bT] (fun E6 => [(2, vP (pb E1 0) 0), (3, vP (pb E1 1) 0), (4, vP (pb E1 2) 0), (5, vP (pb E1 3) 0), (6, .slice ((some ⟨g, 0, none⟩)) ((digs x).length) ((digs x).length)), (7, .slice ((sA rv)) ((digs rr).length) ((sC rv))), (8, vI ((((j + 1) : Nat) : Int) - 1)), (19, vI ((((j + 1) : Nat) : Int) - 1)), (20, bT)]) (hs := c_ mv_ <| c_ (bi0 (vI ((((j + 1) : Nat) : Int) - 1)) (vI 0)) <| e_) (k := fun E6 ac wd h_6 => ?_)
  clear h_5
  refine then_n ?_
  refine cT_ h_6 ?_
  refine wp_skip (then_n (wp_seq (wp_block (wp_seq ?_))))
  obtain ⟨u, hu⟩ : ∃ u, u = (digs x).getD j 0 := ⟨_, rfl⟩
  have gu := (rg_digs x).getD j
  rw [← hu] at gu
  have r0 := hI.r0
  have r1 := hI.r1
  have hq3 := div_digit r0 r1 gu.1 gu.2
  obtain ⟨m, hm⟩ : ∃ m, m = u + 65536 * rr := ⟨_, rfl⟩
  have hS := hI.step (rg_digs x)
  rw [← hu, ← hm] at hS
  rw [← hm] at hq3
  have hmn : nat (u :: digs rr) = m := by simp only [nat]; rw [nat_digs' r0, hm]
  have hmg : Rg (u :: digs rr) := Rg.cons.2 ⟨gu, rg_digs rr⟩
  have hrl : (digs rr).length ≤ (digs y).length := digs_mono r0 (Int.le_of_lt r1)
  have hml : (digs m).length ≤ (digs y).length + 1 := by have := digs_len_nat hmg; rw [hmn, List.length_cons] at this; omega
  have hmy : y * (m / y) ≤ m := by have := Int.mul_ediv_self_le (x := m) (k := y) (by omega); exact this
  have hmy0 : 0 ≤ y * (m / y) := Int.mul_nonneg (by omega) hq3.2.2
  have hsl : (qs.set j (m / y)).length = qs.length := List.length_set
  have hgq : (qs.set j (m / y)).getD j 0 = m / y := by rw [List.getD_eq_getElem?_getD, List.getElem?_set_self (by omega)]; rfl
  refine rf_ h_6 [[0],[0,1],[2],r_ 4,r_ 5,r_ 6,[6],r_ 8,r_ 9,r_ 10] [K_ (vP (pb E1 0) 1), K_ (.slice A0 ((digs x).length) c0), K_ (vI ((((j + 1) : Nat) : Int) - 1)), K_ (elt (.slice A0 ((digs x).length) c0) j), K_ (vI u), KE_ fun env => .slice ((sA (env 5))) 1 1, K_ (.slice ((sA rv)) ((digs rr).length) ((sC rv))), KE_ fun env => .slice ((sA (env 7))) ((u :: (digs rr)).length) ((sC (env 7))), KE_ fun env => .slice ((sA (env 7))) ((digs m).length) ((sC (env 7))), KE_ fun env => .slice ((sA (env 7))) ((digs m).length) ((sC (env 7)))] (fun E7 => [(2, vP (pb E1 0) 0), (3, vP (pb E1 1) 0), (4, vP (pb E1 2) 0), (5, vP (pb E1 3) 0), (6, .slice ((some ⟨g, 0, none⟩)) ((digs x).length) ((digs x).length)), (7, .slice ((sA (E7 7))) ((digs m).length) ((sC (E7 7)))), (8, vI ((((j + 1) : Nat) : Int) - 1)), (19, vI ((((j + 1) : Nat) : Int) - 1)), (20, bT), (23, vP (pb E1 0) 1), (24, .slice A0 ((digs x).length) c0), (25, vI ((((j + 1) : Nat) : Int) - 1)), (26, elt (.slice A0 ((digs x).length) c0) j), (27, vI u), (28, .slice ((sA (E7 5))) 1 1), (29, .slice ((sA rv)) ((digs rr).length) ((sC rv))), (30, .slice ((sA (E7 7))) ((u :: (digs rr)).length) ((sC (E7 7)))), (31, .slice ((sA (E7 7))) ((digs m).length) ((sC (E7 7))))]) (F := [(5, fun env w => One (some g) w (env 5) u), (7, fun env w => RowX (some g) w (env 7) (u :: (digs rr)))]) (L1 := fun E7 => [fun w => RowX (some g) w rv (digs rr), fun w => One (some g) w (E7 5) u, fun w => RowX (some g) w (E7 7) (u :: (digs rr))]) (hs := c_ (fa0 (vP (pb E1 0) 0)) <| c_ (ld_ 0 (hrd := by exact rd44 rfl)) <| c_ mv_ <| c_ (ia_ Try.underlying44 sz3 j j ((((j + 1) : Nat) : Int) - 1) (fun _ env _ wd hA => (hr.grown hA.j.st.gr).els) (by omega) (by omega) (Nat.mul_one _)) <| c_ (le_ j (fun _ env _ wd hA => (hr.grown hA.j.st.gr).els) (by omega) (le3 (congrArg vi hu.symm))) <| c_ (by refine s_bs1 rfl rfl (fun _ => wanted_none rfl _) u rfl rfl rfl (fun {D env ac wd} hA => ?_); have e27 : ac.tmps[27]? = some (vI u) := hA.g rfl; simp [go_sem, e27, Try.underlying44]) <| c_ mv_ <| c_ (s_apR rfl rfl rfl rfl u (digs rr) (by omega) rfl rfl rfl (vs := (fun env => .slice ((sA (env 5))) 1 1)) (vx := (fun _ => .slice ((sA rv)) ((digs rr).length) ((sC rv)))) (fun _ => rfl) (fun _ => rfl) (fun {D env ac wd} hA => One.re (hA.fact 5 (φ := fun v w => One (some g) w v u) rfl rfl rfl)) (fun {D env ac wd} hA => (Facts.row (hA.j.st.now).1 0 rfl))) <| c_ (cw_ Try.func54 (h := fun _ env _ wd hA => ⟨_, trim_eq wd (sA (env 7)) (sC (env 7)) (u :: (digs rr)) m hmn (At.row hA 7 rfl rfl rfl) hmg, rfl⟩)) <| c_ mv_ <| e_) (k := fun E7 ac wd h_7 => ?_)
  clear h_6
  refine then_n (wp_seq ?_)
  refine rf_ h_7 [[0],[1],[2],[3],[3,4],[2,3,4,5],r_ 7,r_ 8] [K_ (.slice ((some ⟨g, 0, none⟩)) ((digs x).length) ((digs x).length)), K_ (vI ((((j + 1) : Nat) : Int) - 1)), K_ (.slice ((sA (E7 7))) ((digs m).length) ((sC (E7 7)))), K_ (vP (pb E1 1) 1), K_ (.slice B0 ((digs y).length) k0), K_ (vI (m / y)), K_ (elt (.slice ((some ⟨g, 0, none⟩)) ((digs x).length) ((digs x).length)) j), none] (fun E8 => [(2, vP (pb E1 0) 0), (3, vP (pb E1 1) 0), (4, vP (pb E1 2) 0), (5, vP (pb E1 3) 0), (6, .slice ((some ⟨g, 0, none⟩)) ((digs x).length) ((digs x).length)), (7, .slice ((sA (E7 7))) ((digs m).length) ((sC (E7 7)))), (8, vI ((((j + 1) : Nat) : Int) - 1)), (19, vI ((((j + 1) : Nat) : Int) - 1)), (20, bT), (23, vP (pb E1 0) 1), (24, .slice A0 ((digs x).length) c0), (25, vI ((((j + 1) : Nat) : Int) - 1)), (26, elt (.slice A0 ((digs x).length) c0) j), (27, vI u), (28, .slice ((sA (E7 5))) 1 1), (29, .slice ((sA rv)) ((digs rr).length) ((sC rv))), (30, .slice ((sA (E7 7))) ((u :: (digs rr)).length) ((sC (E7 7)))), (31, .slice ((sA (E7 7))) ((digs m).length) ((sC (E7 7)))), (32, .slice ((some ⟨g, 0, none⟩)) ((digs x).length) ((digs x).length)), (33, vI ((((j + 1) : Nat) : Int) - 1)), (34, .slice ((sA (E7 7))) ((digs m).length) ((sC (E7 7)))), (35, vP (pb E1 1) 1), (36, .slice B0 ((digs y).length) k0), (37, vI (m / y)), (38, elt (.slice ((some ⟨g, 0, none⟩)) ((digs x).length) ((digs x).length)) j)]) (th := (some (7, fun _ w => OwnR w w0.heap.size (vG g ((digs x).length)) (qs.set j (m / y))))) (T := fun E8 => fun w => OwnR w w0.heap.size (vG g ((digs x).length)) (qs.set j (m / y))) (hs := c_ mv_ <| c_ mv_ <| c_ mv_ <| c_ (fa0 (vP (pb E1 1) 0)) <| c_ (ld_ 1 (hrd := by exact rd44 rfl)) <| c_ (cw_ Try.func68 (h := fun _ env _ wd hA => ⟨_, digit_any wd (sA (E7 7)) B0 (sC (E7 7)) k0 m y hq3.1 hy0 hq3.2.1 hy (Row.trimE hmg hmn (Facts.row (hA.j.st.now).1 2 rfl)) (hr2.grown hA.j.st.gr), rfl⟩)) <| c_ (ia_ Try.underlying44 sz3 j j ((((j + 1) : Nat) : Int) - 1) (fun _ env _ wd hA => (OwnR.row (by omega) (hA.thO rfl)).els) (by omega) (by omega) (Nat.mul_one _)) <| c_ (s_sr rfl rfl rfl rfl rfl rfl rfl (fun _ h => h) j (m / y) rfl (fun _ => rfl) (fun _ => rfl) (by omega)) <| e_) (k := fun E8 ac wd h_8 => ?_)
  clear h_7
  refine then_n ?_
  refine rf_ h_8 [[0],[1],[1,2],[1,2,3],[4],[5],[4,5,6],[4,5,6,7],[4,5,6,7,8],[4,5,6,7,8,9],[1,2,3,4,5,6,7,8,9,10],[1,2,3,4,5,6,7,8,9,10,11],r_ 13,r_ 14] [K_ (.slice ((sA (E7 7))) ((digs m).length) ((sC (E7 7)))), K_ (vP (pb E1 1) 1), K_ (.slice B0 ((digs y).length) k0), K_ (.agg #[bF, .slice B0 ((digs y).length) k0]), K_ (.slice ((some ⟨g, 0, none⟩)) ((digs x).length) ((digs x).length)), K_ (vI ((((j + 1) : Nat) : Int) - 1)), K_ (elt (.slice ((some ⟨g, 0, none⟩)) ((digs x).length) ((digs x).length)) j), K_ (vI (m / y)), K_ (.int .u64 (m / y)), KE_ fun env => bigF (m / y) (env 9), KE_ fun env => bigF (y * (m / y)) (env 10), KE_ fun env => .slice ((bA (env 10))) ((digs (y * (m / y))).length) ((bC (env 10))), KE_ fun env => .slice ((sA (env 12))) ((digs (m - y * (m / y))).length) ((sC (env 12))), KE_ fun env => .slice ((sA (env 12))) ((digs (m - y * (m / y))).length) ((sC (env 12)))] (fun E9 => [(2, vP (pb E1 0) 0), (3, vP (pb E1 1) 0), (4, vP (pb E1 2) 0), (5, vP (pb E1 3) 0), (6, .slice ((some ⟨g, 0, none⟩)) ((digs x).length) ((digs x).length)), (7, .slice ((sA (E9 12))) ((digs (m - y * (m / y))).length) ((sC (E9 12)))), (8, vI ((((j + 1) : Nat) : Int) - 1)), (19, vI ((((j + 1) : Nat) : Int) - 1)), (20, bT), (23, vP (pb E1 0) 1), (24, .slice A0 ((digs x).length) c0), (25, vI ((((j + 1) : Nat) : Int) - 1)), (26, elt (.slice A0 ((digs x).length) c0) j), (27, vI u), (28, .slice ((sA (E7 5))) 1 1), (29, .slice ((sA rv)) ((digs rr).length) ((sC rv))), (30, .slice ((sA (E7 7))) ((u :: (digs rr)).length) ((sC (E7 7)))), (31, .slice ((sA (E7 7))) ((digs m).length) ((sC (E7 7)))), (32, .slice ((some ⟨g, 0, none⟩)) ((digs x).length) ((digs x).length)), (33, vI ((((j + 1) : Nat) : Int) - 1)), (34, .slice ((sA (E7 7))) ((digs m).length) ((sC (E7 7)))), (35, vP (pb E1 1) 1), (36, .slice B0 ((digs y).length) k0), (37, vI (m / y)), (38, elt (.slice ((some ⟨g, 0, none⟩)) ((digs x).length) ((digs x).length)) j), (39, .slice ((sA (E7 7))) ((digs m).length) ((sC (E7 7)))), (40, vP (pb E1 1) 1), (41, .slice B0 ((digs y).length) k0), (42, .agg #[bF, .slice B0 ((digs y).length) k0]), (43, .slice ((some ⟨g, 0, none⟩)) ((digs x).length) ((digs x).length)), (44, vI ((((j + 1) : Nat) : Int) - 1)), (45, elt (.slice ((some ⟨g, 0, none⟩)) ((digs x).length) ((digs x).length)) j), (46, vI (m / y)), (47, .int .u64 (m / y)), (48, bigF (m / y) (E9 9)), (49, bigF (y * (m / y)) (E9 10)), (50, .slice ((bA (E9 10))) ((digs (y * (m / y))).length) ((bC (E9 10)))), (51, .slice ((sA (E9 12))) ((digs (m - y * (m / y))).length) ((sC (E9 12))))]) (F := [(9, fun env w => BigX (some g) w (env 9) (m / y)), (10, fun env w => BigX (some g) w (env 10) (y * (m / y))), (12, fun env w => RowX (some g) w (env 12) (digs (m - y * (m / y))))]) (L1 := fun E9 => [fun w => RowX (some g) w rv (digs rr), fun w => One (some g) w (E7 5) u, fun w => RowX (some g) w (E7 7) (u :: (digs rr)), fun w => BigX (some g) w (E9 9) (m / y), fun w => BigX (some g) w (E9 10) (y * (m / y)), fun w => RowX (some g) w (E9 12) (digs (m - y * (m / y)))]) (hs := c_ mv_ <| c_ (fa0 (vP (pb E1 1) 0)) <| c_ (ld_ 1 (hrd := by exact rd44 rfl)) <| c_ (bd0 ([.slice B0 ((digs y).length) k0])) <| c_ mv_ <| c_ mv_ <| c_ (ia_ Try.underlying44 sz3 j j ((((j + 1) : Nat) : Int) - 1) (fun _ env _ wd hA => (OwnR.row (by omega) (hA.thO rfl)).els) (by omega) (by omega) (Nat.mul_one _)) <| c_ (le_ j (fun _ env _ wd hA => (OwnR.row (by omega) (hA.thO rfl)).els) (by (rw [List.length_set]; omega)) (le3 (congrArg vi hgq))) <| c_ (cv0 (vI (m / y)) (h := by intro env w; (first | (simp [go_sem]; done) | (simp [go_sem]; exact IntWalk.u64_in _ (by omega))))) <| c_ (cf_ Try.func36 (fun v w => BigX (some g) w v (m / y)) (bigF (m / y)) (h := fun _ env _ wd hA => ⟨_, toG (hA.j.st.exb g rfl).1 (Word_any wd (m / y) hq3.2.2 (by omega)), rfl⟩)) <| c_ (cf_ Try.func34 (fun v w => BigX (some g) w v (y * (m / y))) (bigF (y * (m / y))) (h := fun _ env _ wd hA => ⟨_, toG (hA.j.st.exb g rfl).1 (Mul_any wd false B0 k0 y (decide_eq_false (by omega)).symm (hr2.grown hA.j.st.gr) hy (decide (m / y < 0)) (bA (env 9)) (bC (env 9)) (m / y) rfl (At.big hA 9 rfl rfl rfl) (by unfold Sm; omega)), rfl⟩)) <| c_ (fl_ (fun env => bigF (y * (m / y)) (env 10))) <| c_ (cf_ Try.func47 (fun v w => RowX (some g) w v (digs (m - y * (m / y)))) (slF (digs (m - y * (m / y)))) (h := fun _ env _ wd hA => ⟨_, rowG (hA.j.st.exb g rfl).1 (sub_core wd (sA (E7 7)) (bA (env 10)) (sC (E7 7)) (bC (env 10)) m (y * (m / y)) hmy0 (Row.trimE hmg hmn (Facts.row (hA.j.st.now).1 2 rfl)) (At.big hA 10 rfl rfl rfl) hmy (by omega)), rfl⟩)) <| c_ mv_ <| e_) (k := fun E9 ac wd h_9 => ?_)
  clear h_8
  refine blk_n (then_n ?_)
  refine rf_ h_9 (tri 3) [K_ (vI ((((j + 1) : Nat) : Int) - 1)), K_ (vI (((j : Nat) : Int) - 1)), K_ (vI (((j : Nat) : Int) - 1))] (fun E10 => [(2, vP (pb E1 0) 0), (3, vP (pb E1 1) 0), (4, vP (pb E1 2) 0), (5, vP (pb E1 3) 0), (6, .slice ((some ⟨g, 0, none⟩)) ((digs x).length) ((digs x).length)), (7, .slice ((sA (E9 12))) ((digs (m - y * (m / y))).length) ((sC (E9 12)))), (8, vI (((j : Nat) : Int) - 1)), (19, vI ((((j + 1) : Nat) : Int) - 1)), (20, bT), (21, vI ((((j + 1) : Nat) : Int) - 1)), (22, vI (((j : Nat) : Int) - 1)), (23, vP (pb E1 0) 1), (24, .slice A0 ((digs x).length) c0), (25, vI ((((j + 1) : Nat) : Int) - 1)), (26, elt (.slice A0 ((digs x).length) c0) j), (27, vI u), (28, .slice ((sA (E7 5))) 1 1), (29, .slice ((sA rv)) ((digs rr).length) ((sC rv))), (30, .slice ((sA (E7 7))) ((u :: (digs rr)).length) ((sC (E7 7)))), (31, .slice ((sA (E7 7))) ((digs m).length) ((sC (E7 7)))), (32, .slice ((some ⟨g, 0, none⟩)) ((digs x).length) ((digs x).length)), (33, vI ((((j + 1) : Nat) : Int) - 1)), (34, .slice ((sA (E7 7))) ((digs m).length) ((sC (E7 7)))), (35, vP (pb E1 1) 1), (36, .slice B0 ((digs y).length) k0), (37, vI (m / y)), (38, elt (.slice ((some ⟨g, 0, none⟩)) ((digs x).length) ((digs x).length)) j), (39, .slice ((sA (E7 7))) ((digs m).length) ((sC (E7 7)))), (40, vP (pb E1 1) 1), (41, .slice B0 ((digs y).length) k0), (42, .agg #[bF, .slice B0 ((digs y).length) k0]), (43, .slice ((some ⟨g, 0, none⟩)) ((digs x).length) ((digs x).length)), (44, vI ((((j + 1) : Nat) : Int) - 1)), (45, elt (.slice ((some ⟨g, 0, none⟩)) ((digs x).length) ((digs x).length)) j), (46, vI (m / y)), (47, .int .u64 (m / y)), (48, bigF (m / y) (E9 9)), (49, bigF (y * (m / y)) (E9 10)), (50, .slice ((bA (E9 10))) ((digs (y * (m / y))).length) ((bC (E9 10)))), (51, .slice ((sA (E9 12))) ((digs (m - y * (m / y))).length) ((sC (E9 12))))]) (hs := c_ mv_ <| c_ (bi0 (vI ((((j + 1) : Nat) : Int) - 1)) (vI 1)) <| c_ mv_ <| e_) (k := fun E10 ac wd h_10 => ?_)
  clear h_9
  refine then_n ?_
  exact ⟨⟨E9 12, _, _, j, hS, (h_10.sel [5] rfl).re rfl⟩, by rw [sI_eq (h_10.g (t := 8) rfl), hmu]; omega⟩
end Go.Proofs.Ytdfkghpgekmmlaa

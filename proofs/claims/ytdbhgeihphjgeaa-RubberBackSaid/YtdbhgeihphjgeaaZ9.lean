/- Texts R0, R1, R4, GNews, GTais, GLabels, GBack, GRises of one proof, one behind the other; what nothing here names is left out. -/
import Derived.Test.YtdbhgeihphjgeaaZ2
import Derived.ProofKit
import Derived.OpenShut
import Derived.ChangeOld
import Derived.Lib.SmallJoins
import Derived.Deep.Slices
import Derived.Deep.Fields
import Derived.ChangeSame
import Derived.Test.YtdbhgeihphjgeaaZ6
import Derived.Test.YtdbhgeihphjgeaaZ8
import Derived.Test.YtdbhgeihphjgeaaZ4
import Derived.IntWalk
/- The arguments of a law opened: a table. (open_slice_fields is the guide's own theorem to copy: extra-structs.md.) -/
namespace Go.Proofs.Ytdbhgeihphjgeaa
open Go.RowKit Go.ChangeShapes Go.WideShapes Go.ChangeAt Go.Deep Go.Joins
set_option linter.unusedVariables false
set_option linter.unusedSimpArgs false
section
variable {H : Type} {enc : TypeId × Value → H} {P : Program} {w : World} {base : Nat} {spare : Nat → Bool} {held : Bool}
theorem open_slice_fields {t e : TypeId} {fs : Array Field} {fuel : Nat} {cs : List Value} {x : DataW H × List MemPlace} (ht : P.underlying t = some (.slice e)) (he : P.underlying e = some (.struct fs))
    (hone : oneCellFields P fs = true) (hC : P.cellsOf e = fs.size) (h : DataW.trod enc P w base spare held fuel t cs = some x) :
    (cs = [.slice none 0 0] ∧ x = (.nil, [])) ∨
    ∃ (a : Addr) (len cap m : Nat) (D : Nat → DataW H) (Pl : Nat → List MemPlace), cs = [.slice (some a) len cap] ∧ base ≤ a.block ∧ len ≤ cap ∧ cap ≤ maxLen ∧ m = (if spare a.block then cap else len) ∧
      x = (.slice ((List.range len).map D) ((List.range (m - len)).map fun j => D (len + j)), MemPlace.row a (m * fs.size) ++ (List.range m).flatMap Pl) ∧
      ∀ i, i < m → ∃ (ys : List (DataW H × List MemPlace)) (n : Nat), D i = .agg (ys.map (·.1)) ∧ Pl i = ys.flatMap (·.2) ∧ ys.length = fs.size ∧
        ∀ (j : Nat) (f : Field), fs[j]? = some f → ∃ (v : Value) (y : DataW H × List MemPlace), w.cell? (a.add (i * fs.size + j)) = some v ∧ ys[j]? = some y ∧ DataW.trod enc P w base spare held n f.type [v] = some y := by
  rcases open_slice ht h with h0 | ⟨a, len, cap, m, n, D, Pl, hcs, hb, hl, hm, hmm, hx, hi⟩
  · exact .inl h0
  · refine .inr ⟨a, len, cap, m, D, Pl, hcs, hb, hl, hm, hmm, by rw [hC] at hx; exact hx, fun i him => ?_⟩
    obtain ⟨cs', hc, ht'⟩ := hi i him
    rw [hC] at hc
    obtain ⟨ys, n', hn', hy, hlen, hyl, hf⟩ := DataW.trod_struct he ht'
    obtain ⟨_, hcl, hat⟩ := World.cells?_some hc
    simp only [Prod.mk.injEq] at hy
    refine ⟨ys, n', hy.1, hy.2, hyl, fun j f hj => ?_⟩
    obtain ⟨ho, hk⟩ := hone_of hone j f hj
    have hjl : j < fs.size := (Array.getElem?_eq_some_iff.1 hj).1
    have hcell := hat j hjl
    have hv : cs'[j]? = some (cs'[j]'(by omega)) := List.getElem?_eq_getElem (by omega)
    have h1 := hf j f hj
    rw [ho, hk] at h1
    have hone' : (cs'.drop j).take 1 = [cs'[j]'(by omega)] := by
      rw [List.drop_eq_getElem_cons (by omega)]
      rfl
    rw [hone'] at h1
    have hys : ys[j]? = some (ys[j]'(by omega)) := List.getElem?_eq_getElem (by omega)
    refine ⟨_, _, ?_, hys, h1.trans hys⟩
    rw [← Go.Deep.add_add, hcell, hv]
end
theorem ad_add' (b o j : Nat) : (⟨b, o, none⟩ : Addr).add j = ⟨b, o + j, none⟩ := by unfold Addr.add; split <;> simp_all
theorem list_of {α : Type} (d : α) (P : Nat → α → Prop) : ∀ n : Nat, (∀ i, i < n → ∃ e, P i e) → ∃ l : List α, l.length = n ∧ ∀ i, i < n → P i (l.getD i d)
  | 0, _ => ⟨[], rfl, fun i hi => absurd hi (Nat.not_lt_zero _)⟩
  | n + 1, h => by
    obtain ⟨l, hl, hp⟩ := list_of d P n (fun i hi => h i (by omega))
    obtain ⟨e, he⟩ := h n (by omega)
    refine ⟨l ++ [e], by simp [hl], fun i hi => ?_⟩
    by_cases hin : i < n
    · have : (l ++ [e]).getD i d = l.getD i d := by simp [List.getD_eq_getElem?_getD, List.getElem?_append_left (show i < l.length by omega)]
      rw [this]; exact hp i hin
    · obtain rfl : i = n := by omega
      have : (l ++ [e]).getD i d = e := by simp [List.getD_eq_getElem?_getD, ← hl]
      rw [this]; exact he
theorem wf_I64 {x : Int} (h : (Lit.int .i64 x).wf = true) : I64 x := bounds_i64 h
section
variable {H : Type} {enc : TypeId × Value → H} {w : World}
end
end Go.Proofs.Ytdbhgeihphjgeaa

/- What every row needs of the program, once. -/
namespace Go.Proofs.Ytdbhgeihphjgeaa
theorem own_knob : ownKnob Try.prog.godebug = none := by kernel_rfl
theorem laidOut : laidOutB Try.prog = true := by kernel_rfl
end Go.Proofs.Ytdbhgeihphjgeaa

/- The arguments of a law opened: rates (a list of segments, two numbers), a label, a wide number. Own work. -/
namespace Go.Proofs.Ytdbhgeihphjgeaa
open Go.RowKit Go.ChangeShapes Go.WideShapes Go.ChangeAt Go.Deep Go.Joins
set_option linter.unusedVariables false
set_option linter.unusedSimpArgs false
theorem ratesCells : Try.prog.cellsOf 60 = 3 := by kernel_rfl
theorem segCells : Try.prog.cellsOf 53 = 4 := by kernel_rfl
theorem labelCells : Try.prog.cellsOf 63 = 3 := by kernel_rfl
theorem wideCells : Try.prog.cellsOf 66 = 2 := by kernel_rfl
theorem cell_blk {w : World} {b o : Nat} {v : Value} (h : w.cell? ⟨b, o, none⟩ = some v) : ∃ (cur : Array Value) (T : TypeId) (fz : Nat × Nat), w.heap[b]? = some (.cells cur T fz) ∧ cur[o]? = some v := by
  unfold World.cell? at h
  simp only at h
  split at h
  · rename_i c T fz hb
    exact ⟨c, T, fz, hb, by simpa using h⟩
  · cases h
section
variable {H : Type} {enc : TypeId × Value → H} {w : World}
set_option maxRecDepth 100000 in
theorem open_segs {sl : Value} {y : DataW H × List MemPlace} {n : Nat} (h : DataW.trod enc Try.prog w 0 (fun _ => true) true n 50 [sl] = some y) :
    ∃ A c l, sl = .slice A l.length c ∧ SegU w (.slice A l.length c) l := by
  rcases open_slice_fields Try.underlying50 Try.underlying53 (by kernel_rfl) segCells h with ⟨hcs, _⟩ | ⟨a, len, cap, m, D, Pl, hcs, _, hlc, hcm, hm, hx, hf⟩
  · simp only [List.cons.injEq, and_true] at hcs
    subst hcs
    exact ⟨none, 0, [], rfl, none, 0, rfl, Nat.le_refl _, by simp, .inl rfl⟩
  · simp only [List.cons.injEq, and_true] at hcs
    subst hcs
    simp only [if_true] at hm
    subst hm
    have hel : ∀ i, i < len → ∃ e : Sg, w.cell? (a.add (i * 4)) = some (vi e.d) ∧ w.cell? (a.add (i * 4 + 1)) = some (vi e.b) ∧ w.cell? (a.add (i * 4 + 2)) = some (vi e.f) ∧ w.cell? (a.add (i * 4 + 3)) = some (vi e.r) := by
      intro i hi
      obtain ⟨ys, n', _, _, _, hfj⟩ := hf i (by omega)
      obtain ⟨v0, y0, c0, _, t0⟩ := hfj 0 _ rfl
      obtain ⟨v1, y1, c1, _, t1⟩ := hfj 1 _ rfl
      obtain ⟨v2, y2, c2, _, t2⟩ := hfj 2 _ rfl
      obtain ⟨v3, y3, c3, _, t3⟩ := hfj 3 _ rfl
      obtain ⟨z0, e0, _, w0⟩ := DataW.trod_int Try.underlying3 t0
      obtain ⟨z1, e1, _, w1⟩ := DataW.trod_int Try.underlying3 t1
      obtain ⟨z2, e2, _, w2⟩ := DataW.trod_int Try.underlying3 t2
      obtain ⟨z3, e3, _, w3⟩ := DataW.trod_int Try.underlying3 t3
      simp only [List.cons.injEq, and_true] at e0 e1 e2 e3
      subst e0 e1 e2 e3
      exact ⟨⟨z0, z1, z2, z3⟩, c0, c1, c2, c3⟩
    obtain ⟨es, hl, hes⟩ := list_of (⟨0, 0, 0, 0⟩ : Sg) (fun i e => w.cell? (a.add (i * 4)) = some (vi e.d) ∧ w.cell? (a.add (i * 4 + 1)) = some (vi e.b) ∧ w.cell? (a.add (i * 4 + 2)) = some (vi e.f) ∧ w.cell? (a.add (i * 4 + 3)) = some (vi e.r)) len hel
    subst hl
    refine ⟨some a, m, es, rfl, some a, m, rfl, by omega, by unfold maxLen at hcm; omega, ?_⟩
    rcases Nat.eq_zero_or_pos es.length with h0 | h0
    · exact .inl h0
    · obtain ⟨b, off, spot⟩ := a
      have c0 := (hes 0 h0).1
      have hspot : spot = none := by simpa [Addr.add] using World.cell?_spot c0
      subst hspot
      have c0' := c0
      rw [ad_add'] at c0'
      obtain ⟨cur, T, fz, hb, _⟩ := cell_blk c0'
      refine .inr ⟨b, off, T, cur, fz, rfl, hb, fun i hi => ?_⟩
      have get : ∀ j v, w.cell? ((⟨b, off, none⟩ : Addr).add j) = some v → cur[off + j]? = some v := by
        intro j v hv
        rw [ad_add'] at hv
        obtain ⟨cur', T', fz', hb', hv'⟩ := cell_blk hv
        rw [hb] at hb'
        simp only [Option.some.injEq, Obj.cells.injEq] at hb'
        obtain ⟨rfl, _⟩ := hb'
        exact hv'
      have hq := hes (i / 4) (by omega)
      obtain ⟨q0, q1, q2, q3⟩ := hq
      obtain ⟨j, q, hq4, rfl⟩ : ∃ j q, q < 4 ∧ i = j * 4 + q := ⟨i / 4, i % 4, by omega, by omega⟩
      rw [show (j * 4 + q) / 4 = j by omega] at q0 q1 q2 q3
      match q, hq4 with
      | 0, _ => rw [Nat.add_zero, sgC_0]; exact get _ _ q0
      | 1, _ => rw [sgC_1]; exact get _ _ q1
      | 2, _ => rw [sgC_2]; exact get _ _ q2
      | 3, _ => rw [sgC_3]; exact get _ _ q3
set_option maxRecDepth 100000 in
theorem open_rates {r : Reach} {b0 : Nat} {v : Value} {d : DataW H} {p : List MemPlace} (hv : Value.okWide Try.prog w r b0 60 v) (h : DataW.Trod enc Try.prog w 0 (fun _ => true) true 60 v d p) :
    ∃ A c l y o, v = .agg #[.slice A l.length c, vI y, vI o] ∧ SegU w (.slice A l.length c) l ∧ I64 y ∧ I64 o := by
  obtain ⟨v0, v1, v2, y0, y1, y2, n, rfl, _, hp, h0, h1, h2⟩ := open_agg3 Try.underlying60 (by kernel_rfl) ratesCells hv h
  obtain ⟨u, e0, _, w0⟩ := DataW.trod_int Try.underlying3 h1
  obtain ⟨x, e1, _, w1⟩ := DataW.trod_int Try.underlying3 h2
  simp only [List.cons.injEq, and_true] at e0 e1
  subst e0 e1
  obtain ⟨A, c, l, rfl, hl⟩ := open_segs h0
  exact ⟨A, c, l, u, x, rfl, hl, wf_I64 w0, wf_I64 w1⟩
set_option maxRecDepth 100000 in
theorem open_label {r : Reach} {b0 : Nat} {v : Value} {d : DataW H} {p : List MemPlace} (hv : Value.okWide Try.prog w r b0 63 v) (h : DataW.Trod enc Try.prog w 0 (fun _ => true) true 63 v d p) :
    ∃ a b c, v = vL a b c ∧ I64 a ∧ I64 b ∧ I64 c := by
  obtain ⟨v0, v1, v2, y0, y1, y2, n, rfl, _, hp, h0, h1, h2⟩ := open_agg3 Try.underlying63 (by kernel_rfl) labelCells hv h
  obtain ⟨u, e0, _, w0⟩ := DataW.trod_int Try.underlying3 h0
  obtain ⟨x, e1, _, w1⟩ := DataW.trod_int Try.underlying3 h1
  obtain ⟨y, e2, _, w2⟩ := DataW.trod_int Try.underlying3 h2
  simp only [List.cons.injEq, and_true] at e0 e1 e2
  subst e0 e1 e2
  exact ⟨u, x, y, rfl, wf_I64 w0, wf_I64 w1, wf_I64 w2⟩
set_option maxRecDepth 100000 in
theorem open_wide {r : Reach} {b0 : Nat} {v : Value} {d : DataW H} {p : List MemPlace} (hv : Value.okWide Try.prog w r b0 66 v) (h : DataW.Trod enc Try.prog w 0 (fun _ => true) true 66 v d p) :
    ∃ z, v = vW z ∧ InW z := by
  obtain ⟨v0, v1, y0, y1, n, rfl, _, hp, h0, h1⟩ := open_agg2 Try.underlying66 (by kernel_rfl) wideCells hv h
  obtain ⟨u, e0, _, w0⟩ := DataW.trod_int Try.underlying2 h0
  obtain ⟨x, e1, _, w1⟩ := DataW.trod_int Try.underlying64 h1
  simp only [List.cons.injEq, and_true] at e0 e1
  subst e0 e1
  have h2 := bounds_i64 w0
  have h3 := bounds_u64 w1
  refine ⟨u * 18446744073709551616 + x, ?_, by unfold InW; omega⟩
  rw [show vW (u * 18446744073709551616 + x) = .agg #[.int .i64 u, .int .u64 x] by
    unfold vW hi lo
    rw [show (u * 18446744073709551616 + x) / 18446744073709551616 = u by omega, show (u * 18446744073709551616 + x) % 18446744073709551616 = x by omega]]
end
end Go.Proofs.Ytdbhgeihphjgeaa

/- the law RubberNews (printed by my walk.py) -/
namespace Go.Proofs.Ytdbhgeihphjgeaa
open Go.RowKit
set_option linter.unusedVariables false
set_option linter.unusedSimpArgs false
attribute [local go_sem] vN bT bF rS vSg vW vM vL vT2 vT3 vP vI execOp Act.eval evC bigF vB hi_zero lo_zero Try.underlying60
set_option maxRecDepth 100000 in
set_option maxHeartbeats 8000000 in
theorem rubberNews_walk (w0 : World) (A0 : Option Addr) (c0 : Nat) (l : List Sg) (hl : SegU w0 (.slice A0 l.length c0) l) (day off : Int) (hd0 : -9223372036854775808 ≤ day) (hd1 : day < 9223372036854775808) : Calls Try.prog 11 #[.agg #[.slice A0 l.length c0, vI day, vI off]] w0 fun e w' => e = .returned (.bool true) ∧ Below w0.heap.size w0 w' := by
  have hle := RowU_le hl
  have hst := St.start w0 (Θ := fun _ => True) (fun _ _ => trivial)
  refine enter Try.func11 rfl (n := 51) rfl (Nat.le_of_ble_eq_true rfl) hst (L := [(0, .agg #[.slice A0 l.length c0, vI day, vI off])]) (lk_args rfl) (fun ac h => ?_)
  replace h := h.facts
  refine wp_seq ?_
  refine rf_ h [[0],[1]] [KE_ fun env => vP (pb env 0) 0, K_ bF] (fun E1 => [(1, vP (pb E1 0) 0), (2, bF)]) (W := [{ i := 0, T := 60, c0 := [.slice A0 l.length c0, vI day, vI off] }]) (M' := fun E1 => [((pb E1 0), 60, [.slice A0 l.length c0, vI day, vI off])]) (hs := c_ (bx0 0 (.agg #[.slice A0 l.length c0, vI day, vI off])) <| c_ mv_ <| e_) (k := fun E1 ac wd h_1 => ?_)
  clear h
  refine then_n (wp_seq ?_)
  cases hm : mayS l day off
  refine rf_ h_1 [[0],[0,1],[2],[2,3],[4],[4,5],r_ 7,r_ 8,r_ 9,[0,1,2,3,4,5,6,7,9],[0,1,2,3,4,5,6,7,8,10],r_ 12] [K_ (vP (pb E1 0) 0), K_ (.slice A0 l.length c0), K_ (vP (pb E1 0) 1), K_ (vI day), K_ (vP (pb E1 0) 2), K_ (vI off), K_ (vT2 (.pointer none) (vI 10)), K_ (vT2 (.pointer none) (vI 10)), K_ (.pointer none), K_ (vI 10), K_ (.pointer none), K_ (vI 10)] (fun E2 => [(1, vP (pb E1 0) 0), (2, bF), (3, .pointer none), (4, vI 10)]) (hs := c_ (fa0 (vP (pb E1 0) 0)) <| c_ (ld_ 0 (hrd := by exact rd50 rfl)) <| c_ (fa0 (vP (pb E1 0) 0)) <| c_ (ld_ 0 (hrd := by exact rd3 rfl)) <| c_ (fa0 (vP (pb E1 0) 0)) <| c_ (ld_ 0 (hrd := by exact rd3 rfl)) <| c_ (cw_ Try.func37 (h := fun _ env _ wd hA => ⟨_, rNew_no wd A0 c0 l (hl.grown hA.j.st.gr) day off hd0 hd1 hm, rfl⟩)) <| c_ mv_ <| c_ ext_ <| c_ ext_ <| c_ mv_ <| c_ mv_ <| e_) (k := fun E2 ac wd h_2 => ?_)
  clear h_1
  refine then_n (wp_seq (wp_seq ?_))
  refine rf_ h_2 [[0],[0,1],[2],[2,3],[4],[4,5],r_ 7,r_ 8] [K_ (vP (pb E1 0) 0), K_ (.slice A0 l.length c0), K_ (vP (pb E1 0) 1), K_ (vI day), K_ (vP (pb E1 0) 2), K_ (vI off), K_ bF, K_ bT] (fun E3 => [(1, vP (pb E1 0) 0), (2, bF), (3, .pointer none), (4, vI 10), (22, bT)]) (hs := c_ (fa0 (vP (pb E1 0) 0)) <| c_ (ld_ 0 (hrd := by exact rd50 rfl)) <| c_ (fa0 (vP (pb E1 0) 0)) <| c_ (ld_ 0 (hrd := by exact rd3 rfl)) <| c_ (fa0 (vP (pb E1 0) 0)) <| c_ (ld_ 0 (hrd := by exact rd3 rfl)) <| c_ (cw_ Try.func39 (h := fun _ env _ wd hA => ⟨_, (res_eq (May_any wd A0 c0 l (hl.grown hA.j.st.gr) day off) (congrArg Value.bool hm)), rfl⟩)) <| c_ (un0 bF) <| e_) (k := fun E3 ac wd h_3 => ?_)
  clear h_2
  refine then_n ?_
  refine wp_cond_true (eval_tmp (h_3.g (t := 22) rfl)) ?_
  refine wp_seq ?_
  refine rf_ h_3 (tri 10) [K_ bT, K_ bT, K_ (.pointer none), K_ bT, K_ bT, K_ bT, K_ (vI 10), K_ bT, K_ bT, K_ bT] (fun E4 => [(1, vP (pb E1 0) 0), (2, bT), (3, .pointer none), (4, vI 10)]) (hs := c_ (cl_ Try.func38 (h := fun env => ⟨_, answers14_any, rfl⟩)) <| c_ mv_ <| c_ (gm0 (.pointer none)) <| c_ (bi0 (.pointer none) (.pointer none) (h := by intro env w; (first | (simp [go_sem]; done) | (simp [go_sem]; rfl)))) <| c_ (pk0 bT bT bF (h := by intro env w; (first | (simp [go_sem]; done) | (simp [go_sem]; rfl)))) <| c_ mv_ <| c_ (gm0 (vI 10)) <| c_ (bi0 (vI 10) (vI 10) (h := by intro env w; (first | (simp [go_sem]; done) | (simp [go_sem]; rfl)))) <| c_ (pk0 bT bT bF (h := by intro env w; (first | (simp [go_sem]; done) | (simp [go_sem]; rfl)))) <| c_ mv_ <| e_) (k := fun E4 ac wd h_4 => ?_)
  clear h_3
  refine then_n (wp_ret (then_ret ?_))
  have s2 := h_4.g (t := 2) rfl
  refine leave (v := .bool true) h_4.df (by simp [results, Try.results11, go_sem, Array.getD_eq_getD_getElem?, s2]) ?_
  exact ⟨rfl, h_4.st.below⟩
  have hM := mayS_ok hm; have hL := hM.toLOk; have n0 := hL.n0
  refine rf_ h_1 [[0],[0,1],[2],[2,3],[4],[4,5],r_ 7,r_ 8,r_ 9,[0,1,2,3,4,5,6,7,9],[0,1,2,3,4,5,6,7,8,10],r_ 12] [K_ (vP (pb E1 0) 0), K_ (.slice A0 l.length c0), K_ (vP (pb E1 0) 1), K_ (vI day), K_ (vP (pb E1 0) 2), K_ (vI off), KE_ fun env => vT2 (vP (ptrB (tp (env 6) 0)) 0) (vI 0), KE_ fun env => vT2 (vP (ptrB (tp (env 6) 0)) 0) (vI 0), KE_ fun env => vP (ptrB (tp (env 6) 0)) 0, K_ (vI 0), KE_ fun env => vP (ptrB (tp (env 6) 0)) 0, K_ (vI 0)] (fun E2 => [(1, vP (pb E1 0) 0), (2, bF), (3, vP (ptrB (tp (E2 6) 0)) 0), (4, vI 0)]) (F := [(6, fun env w => NewX none w (env 6) l day off)]) (L1 := fun E2 => [fun w => NewX none w (E2 6) l day off]) (hs := c_ (fa0 (vP (pb E1 0) 0)) <| c_ (ld_ 0 (hrd := by exact rd50 rfl)) <| c_ (fa0 (vP (pb E1 0) 0)) <| c_ (ld_ 0 (hrd := by exact rd3 rfl)) <| c_ (fa0 (vP (pb E1 0) 0)) <| c_ (ld_ 0 (hrd := by exact rd3 rfl)) <| c_ (s_factT rfl rfl rfl Try.func37 (by kernel_rfl) rfl (fun _ => wanted_none rfl _) (fun v w => NewX none w v l day off) newF rfl rfl [122, 124] rfl (fun v w h => h.form) (fun v w w' hk h => h.keep hk) (fun {D env ac wd} hA => ⟨_, hA.args (vs := [.slice A0 l.length c0, vI day, vI off]) rfl, rNew_yes wd A0 c0 l (hl.grown hA.j.st.gr) day off hd0 hd1 hm (fun k h => by cases h)⟩)) <| c_ mv_ <| c_ ext_ <| c_ ext_ <| c_ mv_ <| c_ mv_ <| e_) (k := fun E2 ac wd h_2 => ?_)
  clear h_1
  refine then_n (wp_seq (wp_seq ?_))
  refine rf_ h_2 [[0],[0,1],[2],[2,3],[4],[4,5],r_ 7,r_ 8] [K_ (vP (pb E1 0) 0), K_ (.slice A0 l.length c0), K_ (vP (pb E1 0) 1), K_ (vI day), K_ (vP (pb E1 0) 2), K_ (vI off), K_ bT, K_ bF] (fun E3 => [(1, vP (pb E1 0) 0), (2, bF), (3, vP (ptrB (tp (E2 6) 0)) 0), (4, vI 0), (22, bF)]) (hs := c_ (fa0 (vP (pb E1 0) 0)) <| c_ (ld_ 0 (hrd := by exact rd50 rfl)) <| c_ (fa0 (vP (pb E1 0) 0)) <| c_ (ld_ 0 (hrd := by exact rd3 rfl)) <| c_ (fa0 (vP (pb E1 0) 0)) <| c_ (ld_ 0 (hrd := by exact rd3 rfl)) <| c_ (cw_ Try.func39 (h := fun _ env _ wd hA => ⟨_, (res_eq (May_any wd A0 c0 l (hl.grown hA.j.st.gr) day off) (congrArg Value.bool hm)), rfl⟩)) <| c_ (un0 bT) <| e_) (k := fun E3 ac wd h_3 => ?_)
  clear h_2
  refine then_n ?_
  refine wp_cond_false (eval_tmp (h_3.g (t := 22) rfl)) ?_
  refine wp_skip (then_n (wp_seq ?_))
  refine rf_ h_3 [[0],[0,1],[0,1,2],r_ 4,r_ 5,r_ 6,r_ 7,r_ 8,r_ 9,r_ 10,r_ 11,r_ 12,[0,1,2,3,4,5,6,7,8,9,12],[0,1,2,3,4,5,6,7,8,9,12,13],[0,1,2,3,4,5,6,7,8,9,12,13,14],[0,1,2,3,4,5,6,7,8,9,12,13,14,15],[0,1,2,3,4,5,6,7,8,9,12,13,14,15,16],r_ 18,r_ 19,r_ 20] [K_ bT, K_ bT, K_ (vI 0), K_ bT, K_ bT, K_ bT, K_ (vP (ptrB (tp (E2 6) 0)) 0), K_ bT, K_ bT, K_ bT, K_ (vP (ptrB (tp (E2 6) 0)) 0), K_ (vI ((sgi l 0).d)), K_ (vP (pb E1 0) 0), K_ (.slice A0 l.length c0), K_ (elt (.slice A0 l.length c0) (0 * 4)), K_ (elt (.slice A0 l.length c0) (0 * 4)), K_ (vI ((sgi l 0).d)), K_ bT, K_ bT, K_ bT] (fun E4 => [(2, bT)]) (hs := c_ (cl_ Try.func38 (h := fun env => ⟨_, answers14_any, rfl⟩)) <| c_ mv_ <| c_ (gm0 (vI 0)) <| c_ (bi0 (vI 0) (vI 0) (h := by intro env w; (first | (simp [go_sem]; done) | (simp [go_sem]; rfl)))) <| c_ (pk0 bT bT bF (h := by intro env w; (first | (simp [go_sem]; done) | (simp [go_sem]; rfl)))) <| c_ mv_ <| c_ (gm0 (vP (ptrB (tp (E2 6) 0)) 0)) <| c_ (bi0 (vP (ptrB (tp (E2 6) 0)) 0) (.pointer none)) <| c_ (pk0 bT bT bF) <| c_ mv_ <| c_ (gm0 (vP (ptrB (tp (E2 6) 0)) 0)) <| c_ (cw_ Try.func40 (h := fun _ env _ wd hA => ⟨_, first_X (Facts.isR (hA.j.st.now).1 0 rfl) hL, rfl⟩)) <| c_ (fa0 (vP (pb E1 0) 0)) <| c_ (ld_ 0 (hrd := by exact rd50 rfl)) <| c_ (ia_ Try.underlying50 sz53 0 (0 * 4) 0 (fun _ env _ wd hA => (hl.grown hA.j.st.gr).els) (rfl) (by omega) rfl) <| c_ (s_fa rfl rfl rfl (fun hA => hA.gy rfl rfl rfl) (0 * 4) 0 (0 * 4) rfl (s := fun _ => .slice A0 l.length c0) rfl (fun _ => rfl) (fun {D env ac wd} hA => (hl.grown hA.j.st.gr).els) (by omega) (fun b q w => by simp [go_sem, Try.underlying53])) <| c_ (le_ (0 * 4) (fun _ env _ wd hA => (hl.grown hA.j.st.gr).els) (by omega) (le3 (by exact sgC_0 l 0))) <| c_ (bi0 (vI ((sgi l 0).d)) (vI ((sgi l 0).d)) (h := by intro env w; (first | (simp [go_sem]; done) | (simp [go_sem]; rfl)))) <| c_ (pk0 bT bT bF (h := by intro env w; (first | (simp [go_sem]; done) | (simp [go_sem]; rfl)))) <| c_ mv_ <| e_) (k := fun E4 ac wd h_4 => ?_)
  clear h_3
  refine then_n (wp_ret ?_)
  have s2 := h_4.g (t := 2) rfl
  refine leave (v := .bool true) h_4.df (by simp [results, Try.results11, go_sem, Array.getD_eq_getD_getElem?, s2]) ?_
  exact ⟨rfl, h_4.st.below⟩
end Go.Proofs.Ytdbhgeihphjgeaa

/- the law RubberTais (printed by my walk.py) -/
namespace Go.Proofs.Ytdbhgeihphjgeaa
open Go.RowKit
set_option linter.unusedVariables false
set_option linter.unusedSimpArgs false
attribute [local go_sem] vN bT bF rS vSg vW vM vL vT2 vT3 vP vI execOp Act.eval evC bigF vB hi_zero lo_zero Try.underlying60 Try.underlying63 Try.underlying66 Try.underlying70
set_option maxRecDepth 100000 in
set_option maxHeartbeats 8000000 in
theorem rubberTais_walk (w0 : World) (A0 : Option Addr) (c0 : Nat) (l : List Sg) (hl : SegU w0 (.slice A0 l.length c0) l) (day off : Int) (hd0 : -9223372036854775808 ≤ day) (hd1 : day < 9223372036854775808) (d s a : Int) (hx0 : -9223372036854775808 ≤ d) (hx1 : d < 9223372036854775808) (hx2 : -9223372036854775808 ≤ s) (hx3 : s < 9223372036854775808) (hx4 : -9223372036854775808 ≤ a) (hx5 : a < 9223372036854775808) : Calls Try.prog 12 #[.agg #[.slice A0 l.length c0, vI day, vI off], vL d s a] w0 fun e w' => e = .returned (.bool true) ∧ Below w0.heap.size w0 w' := by
  have hle := RowU_le hl
  have hst := St.start w0 (Θ := fun _ => True) (fun _ _ => trivial)
  refine enter Try.func12 rfl (n := 64) rfl (Nat.le_of_ble_eq_true rfl) hst (L := [(0, .agg #[.slice A0 l.length c0, vI day, vI off]), (1, vL d s a)]) (lk_args rfl) (fun ac h => ?_)
  replace h := h.facts
  refine wp_seq ?_
  refine rf_ h [[0],[1],[2]] [KE_ fun env => vP (pb env 0) 0, KE_ fun env => vP (pb env 1) 0, K_ bF] (fun E1 => [(2, vP (pb E1 0) 0), (3, vP (pb E1 1) 0), (4, bF)]) (W := [{ i := 0, T := 60, c0 := [.slice A0 l.length c0, vI day, vI off] }, { i := 1, T := 63, c0 := [vI d, vI s, vI a] }]) (M' := fun E1 => [((pb E1 0), 60, [.slice A0 l.length c0, vI day, vI off]), ((pb E1 1), 63, [vI d, vI s, vI a])]) (hs := c_ (bx0 0 (.agg #[.slice A0 l.length c0, vI day, vI off])) <| c_ (bx0 1 (vL d s a)) <| c_ mv_ <| e_) (k := fun E1 ac wd h_1 => ?_)
  clear h
  refine then_n (wp_seq ?_)
  cases hm : mayS l day off
  refine rf_ h_1 [[0],[0,1],[2],[2,3],[4],[4,5],r_ 7,r_ 8,r_ 9,[0,1,2,3,4,5,6,7,9],[0,1,2,3,4,5,6,7,8,10],r_ 12] [K_ (vP (pb E1 0) 0), K_ (.slice A0 l.length c0), K_ (vP (pb E1 0) 1), K_ (vI day), K_ (vP (pb E1 0) 2), K_ (vI off), K_ (vT2 (.pointer none) (vI 10)), K_ (vT2 (.pointer none) (vI 10)), K_ (.pointer none), K_ (vI 10), K_ (.pointer none), K_ (vI 10)] (fun E2 => [(2, vP (pb E1 0) 0), (3, vP (pb E1 1) 0), (4, bF), (5, .pointer none), (6, vI 10)]) (hs := c_ (fa0 (vP (pb E1 0) 0)) <| c_ (ld_ 0 (hrd := by exact rd50 rfl)) <| c_ (fa0 (vP (pb E1 0) 0)) <| c_ (ld_ 0 (hrd := by exact rd3 rfl)) <| c_ (fa0 (vP (pb E1 0) 0)) <| c_ (ld_ 0 (hrd := by exact rd3 rfl)) <| c_ (cw_ Try.func37 (h := fun _ env _ wd hA => ⟨_, rNew_no wd A0 c0 l (hl.grown hA.j.st.gr) day off hd0 hd1 hm, rfl⟩)) <| c_ mv_ <| c_ ext_ <| c_ ext_ <| c_ mv_ <| c_ mv_ <| e_) (k := fun E2 ac wd h_2 => ?_)
  clear h_1
  refine then_n (wp_seq (wp_seq ?_))
  refine rf_ h_2 [[0],[0,1]] [K_ (vI 10), K_ bT] (fun E3 => [(2, vP (pb E1 0) 0), (3, vP (pb E1 1) 0), (4, bF), (5, .pointer none), (22, bT)]) (hs := c_ mv_ <| c_ (bi0 (vI 10) (vI 0)) <| e_) (k := fun E3 ac wd h_3 => ?_)
  clear h_2
  refine then_n ?_
  refine wp_cond_true (eval_tmp (h_3.g (t := 22) rfl)) ?_
  refine wp_seq ?_
  refine rf_ h_3 [[0],[0,1]] [K_ bT, K_ bT] (fun E4 => [(2, vP (pb E1 0) 0), (3, vP (pb E1 1) 0), (4, bT), (5, .pointer none)]) (hs := c_ (cl_ Try.func38 (h := fun env => ⟨_, answers14_any, rfl⟩)) <| c_ mv_ <| e_) (k := fun E4 ac wd h_4 => ?_)
  clear h_3
  refine then_n (wp_ret (then_ret ?_))
  have s4 := h_4.g (t := 4) rfl
  refine leave (v := .bool true) h_4.df (by simp [results, Try.results12, go_sem, Array.getD_eq_getD_getElem?, s4]) ?_
  exact ⟨rfl, h_4.st.below⟩
  have hM := mayS_ok hm; have hL := hM.toLOk; have n0 := hL.n0
  refine rf_ h_1 [[0],[0,1],[2],[2,3],[4],[4,5],r_ 7,r_ 8,r_ 9,[0,1,2,3,4,5,6,7,9],[0,1,2,3,4,5,6,7,8,10],r_ 12] [K_ (vP (pb E1 0) 0), K_ (.slice A0 l.length c0), K_ (vP (pb E1 0) 1), K_ (vI day), K_ (vP (pb E1 0) 2), K_ (vI off), KE_ fun env => vT2 (vP (ptrB (tp (env 6) 0)) 0) (vI 0), KE_ fun env => vT2 (vP (ptrB (tp (env 6) 0)) 0) (vI 0), KE_ fun env => vP (ptrB (tp (env 6) 0)) 0, K_ (vI 0), KE_ fun env => vP (ptrB (tp (env 6) 0)) 0, K_ (vI 0)] (fun E2 => [(2, vP (pb E1 0) 0), (3, vP (pb E1 1) 0), (4, bF), (5, vP (ptrB (tp (E2 6) 0)) 0), (6, vI 0)]) (F := [(6, fun env w => NewX none w (env 6) l day off)]) (L1 := fun E2 => [fun w => NewX none w (E2 6) l day off]) (hs := c_ (fa0 (vP (pb E1 0) 0)) <| c_ (ld_ 0 (hrd := by exact rd50 rfl)) <| c_ (fa0 (vP (pb E1 0) 0)) <| c_ (ld_ 0 (hrd := by exact rd3 rfl)) <| c_ (fa0 (vP (pb E1 0) 0)) <| c_ (ld_ 0 (hrd := by exact rd3 rfl)) <| c_ (s_factT rfl rfl rfl Try.func37 (by kernel_rfl) rfl (fun _ => wanted_none rfl _) (fun v w => NewX none w v l day off) newF rfl rfl [122, 124] rfl (fun v w h => h.form) (fun v w w' hk h => h.keep hk) (fun {D env ac wd} hA => ⟨_, hA.args (vs := [.slice A0 l.length c0, vI day, vI off]) rfl, rNew_yes wd A0 c0 l (hl.grown hA.j.st.gr) day off hd0 hd1 hm (fun k h => by cases h)⟩)) <| c_ mv_ <| c_ ext_ <| c_ ext_ <| c_ mv_ <| c_ mv_ <| e_) (k := fun E2 ac wd h_2 => ?_)
  clear h_1
  refine then_n (wp_seq (wp_seq ?_))
  refine rf_ h_2 [[0],[0,1]] [K_ (vI 0), K_ bF] (fun E3 => [(2, vP (pb E1 0) 0), (3, vP (pb E1 1) 0), (4, bF), (5, vP (ptrB (tp (E2 6) 0)) 0), (22, bF)]) (hs := c_ mv_ <| c_ (bi0 (vI 0) (vI 0) (h := by intro env w; (first | (simp [go_sem]; done) | (simp [go_sem]; rfl)))) <| e_) (k := fun E3 ac wd h_3 => ?_)
  clear h_2
  refine then_n ?_
  refine wp_cond_false (eval_tmp (h_3.g (t := 22) rfl)) ?_
  refine wp_skip (then_n (wp_seq ?_))
  refine rf_ h_3 [[0],[1],[0,1,2],r_ 4,r_ 5,[0,1,2,3,5],[6],[0,1,2,3,4,6,7],r_ 9] [K_ (vP (ptrB (tp (E2 6) 0)) 0), K_ (vL d s a), K_ (vT2 (vW (taiV l day off d s a)) (vI (taiE l day off d s a))), K_ (vT2 (vW (taiV l day off d s a)) (vI (taiE l day off d s a))), K_ (vW (taiV l day off d s a)), K_ (vI (taiE l day off d s a)), KE_ fun env => vP (pb env 6) 0, none, K_ (vI (taiE l day off d s a))] (fun E4 => [(2, vP (pb E1 0) 0), (3, vP (pb E1 1) 0), (4, bF), (7, vP (pb E4 6) 0), (8, vI (taiE l day off d s a))]) (W := [{ i := 6, T := 66, c0 := [vI 0, .int .u64 0], s := some 7, c1 := fun _ => [vI (hi (taiV l day off d s a)), .int .u64 (lo (taiV l day off d s a))] }]) (M' := fun E4 => [((pb E1 0), 60, [.slice A0 l.length c0, vI day, vI off]), ((pb E1 1), 63, [vI d, vI s, vI a]), ((pb E4 6), 66, [vI (hi (taiV l day off d s a)), .int .u64 (lo (taiV l day off d s a))])]) (hs := c_ mv_ <| c_ (ld_ 1 (hrd := by exact rd63 rfl rfl rfl)) <| c_ (cw_ Try.func41 (h := fun _ env _ wd hA => ⟨_, tai_X (Facts.isR (hA.j.st.now).1 0 rfl) hL d s a hx0 hx1, rfl⟩)) <| c_ mv_ <| c_ ext_ <| c_ ext_ <| c_ (al_ 2) <| c_ (sw_ 2 6 (hst := by exact fun _ _ _ hc => st66 rfl rfl rfl hc)) <| c_ mv_ <| e_) (k := fun E4 ac wd h_4 => ?_)
  clear h_3
  refine then_n (wp_seq ?_)
  refine rf_ h_4 [[0],[0,1],[2],[2,3],[4],[4,5],[6],r_ 8,r_ 9,r_ 10,[0,1,2,3,4,5,6,7,8,10],[11],[0,1,2,3,4,5,6,7,8,9,11,12],r_ 14] [K_ (vP (pb E1 0) 0), K_ (.slice A0 l.length c0), K_ (vP (pb E1 0) 1), K_ (vI day), K_ (vP (pb E1 0) 2), K_ (vI off), K_ (vL d s a), KE_ fun env => vT2 (bigF (taiV l day off d s a) (tp (env 7) 0)) (vI (taiE l day off d s a)), KE_ fun env => vT2 (bigF (taiV l day off d s a) (tp (env 7) 0)) (vI (taiE l day off d s a)), KE_ fun env => bigF (taiV l day off d s a) (tp (env 7) 0), K_ (vI (taiE l day off d s a)), KE_ fun env => vP (pb env 11) 0, none, K_ (vI (taiE l day off d s a))] (fun E5 => [(4, bF), (7, vP (pb E4 6) 0), (8, vI (taiE l day off d s a)), (9, vP (pb E5 11) 0), (10, vI (taiE l day off d s a))]) (W := [{ i := 11, T := 70, c0 := [bF, .slice none 0 0], s := some 12, c1 := fun env => [.bool (decide (taiV l day off d s a < 0)), rS (taiV l day off d s a) ((bA (tp (env 7) 0))) ((bC (tp (env 7) 0)))] }]) (F := [(7, fun env w => TaiX w0.heap.size w (env 7) (taiV l day off d s a) (taiE l day off d s a))]) (L1 := fun E5 => [fun w => NewX none w (E2 6) l day off, fun w => TaiX w0.heap.size w (E5 7) (taiV l day off d s a) (taiE l day off d s a)]) (M' := fun E5 => [((pb E1 0), 60, [.slice A0 l.length c0, vI day, vI off]), ((pb E1 1), 63, [vI d, vI s, vI a]), ((pb E4 6), 66, [vI (hi (taiV l day off d s a)), .int .u64 (lo (taiV l day off d s a))]), ((pb E5 11), 70, [.bool (decide (taiV l day off d s a < 0)), rS (taiV l day off d s a) ((bA (tp (E5 7) 0))) ((bC (tp (E5 7) 0)))])]) (hs := c_ (fa0 (vP (pb E1 0) 0)) <| c_ (ld_ 0 (hrd := by exact rd50 rfl)) <| c_ (fa0 (vP (pb E1 0) 0)) <| c_ (ld_ 0 (hrd := by exact rd3 rfl)) <| c_ (fa0 (vP (pb E1 0) 0)) <| c_ (ld_ 0 (hrd := by exact rd3 rfl)) <| c_ (ld_ 1 (hrd := by exact rd63 rfl rfl rfl)) <| c_ (cf_ Try.func42 (fun v w => TaiX w0.heap.size w v (taiV l day off d s a) (taiE l day off d s a)) (taiF (taiV l day off d s a) (taiE l day off d s a)) (h := fun _ env _ wd hA => ⟨_, toTaiX hA.j.st.gr.size (rTai_any wd A0 c0 l (hl.grown hA.j.st.gr) day off hL d s a hx0 hx1 hx2 hx3 hx4 hx5), rfl⟩)) <| c_ mv_ <| c_ ext_ <| c_ ext_ <| c_ (al_ 3) <| c_ (sw_ 3 11 (hst := by exact fun _ _ _ hc => st70 rfl rfl rfl hc)) <| c_ mv_ <| e_) (k := fun E5 ac wd h_5 => ?_)
  clear h_4
  refine then_n (wp_seq (wp_seq ?_))
  refine rf_ h_5 [[0],[1],[0,1,2]] [K_ (vI (taiE l day off d s a)), K_ (vI (taiE l day off d s a)), K_ bF] (fun E6 => [(4, bF), (7, vP (pb E4 6) 0), (8, vI (taiE l day off d s a)), (9, vP (pb E5 11) 0), (43, bF)]) (hs := c_ mv_ <| c_ mv_ <| c_ (bi0 (vI (taiE l day off d s a)) (vI (taiE l day off d s a)) (h := by intro env w; (first | (simp [go_sem]; done) | (simp [go_sem]; rfl)))) <| e_) (k := fun E6 ac wd h_6 => ?_)
  clear h_5
  refine then_n ?_
  refine wp_cond_false (eval_tmp (h_6.g (t := 43) rfl)) ?_
  refine wp_skip (then_n (wp_seq ?_))
  by_cases he : taiE l day off d s a = 0
  refine rf_ h_6 [[0],[0,1],[0,1,2],r_ 4,r_ 5,r_ 6,[0,1,2,3,4,6],r_ 8,r_ 9,r_ 10,r_ 11,r_ 12,r_ 13,r_ 14,r_ 15,[0,1,2,3,4,5,6,7,8,9,10,11,12,15],r_ 17,r_ 18,r_ 19,r_ 20,r_ 21] [K_ bT, K_ bT, K_ (vI (taiE l day off d s a)), K_ bF, K_ bF, K_ undef, K_ undef, K_ undef, K_ bF, K_ bF, K_ (vI (taiE l day off d s a)), K_ bT, K_ bT, K_ (vW (taiV l day off d s a)), KE_ fun env => bigF (taiV l day off d s a) (env 14), K_ (bigF (taiV l day off d s a) (tp (E5 7) 0)), K_ bT, K_ bT, K_ bT, K_ bT, K_ bT] (fun E7 => [(4, bT)]) (F := [(14, fun env w => BigN w0.heap.size w (env 14) (taiV l day off d s a))]) (L1 := fun E7 => [fun w => NewX none w (E2 6) l day off, fun w => TaiX w0.heap.size w (E5 7) (taiV l day off d s a) (taiE l day off d s a), fun w => BigN w0.heap.size w (E7 14) (taiV l day off d s a)]) (hs := c_ (cl_ Try.func38 (h := fun env => ⟨_, answers14_any, rfl⟩)) <| c_ mv_ <| c_ (gm0 (vI (taiE l day off d s a))) <| c_ (bi0 (vI (taiE l day off d s a)) (vI 0) (h := by intro env w; simp [go_sem, he])) <| c_ (gm0 bF (h := by intro env w; simp [go_sem, he])) <| c_ off_ <| c_ off_ <| c_ off_ <| c_ (pk0 bF undef bF) <| c_ (gm0 bF) <| c_ (gm0 (vI (taiE l day off d s a))) <| c_ (bi0 (vI (taiE l day off d s a)) (vI 0) (h := by intro env w; simp [go_sem, he])) <| c_ (gm0 bT (h := by intro env w; simp [go_sem, he])) <| c_ (ld_ 2 (hrd := by exact rd66 rfl rfl)) <| c_ (cb_ Try.func44 (taiV l day off d s a) (h := fun _ env _ wd hA => ⟨_, Of_any wd (taiV l day off d s a) (taiV_in hM d s a), rfl⟩)) <| c_ (ld_ 3 (hrd := by exact rd70 rfl rfl)) <| c_ (cw_ Try.func43 (h := fun _ env _ wd hA => ⟨_, (res_eq (Same_any wd (decide (taiV l day off d s a < 0)) (bA (env 14)) (bC (env 14)) (taiV l day off d s a) rfl (At.bigN hA 14 rfl rfl rfl)  (decide (taiV l day off d s a < 0)) (bA (tp (E5 7) 0)) (bC (tp (E5 7) 0)) (taiV l day off d s a) rfl (Facts.taiX (hA.j.st.now).1 1 rfl) ) (congrArg Value.bool (decide_eq_true rfl))), rfl⟩)) <| c_ (pk0 bT bT bF) <| c_ (pk0 bF bT bT) <| c_ (pk0 bT bT bF) <| c_ mv_ <| e_) (k := fun E7 ac wd h_7 => ?_)
  clear h_6
  refine then_n (wp_ret ?_)
  have s4 := h_7.g (t := 4) rfl
  refine leave (v := .bool true) h_7.df (by simp [results, Try.results12, go_sem, Array.getD_eq_getD_getElem?, s4]) ?_
  exact ⟨rfl, h_7.st.below⟩
  have hv0 := taiV_no he
  refine rf_ h_6 [[0],[0,1],[0,1,2],r_ 4,r_ 5,r_ 6,[0,1,2,3,4,6],r_ 8,r_ 9,r_ 10,r_ 11,r_ 12,r_ 13,r_ 14,r_ 15,[0,1,2,3,4,5,6,7,8,9,10,11,12,15],r_ 17,r_ 18,r_ 19,r_ 20,r_ 21] [K_ bT, K_ bT, K_ (vI (taiE l day off d s a)), K_ bT, K_ bT, K_ (vW (taiV l day off d s a)), K_ (.agg #[vI 0, .int .u64 0]), K_ bT, K_ bT, K_ bT, K_ undef, K_ undef, K_ undef, K_ undef, K_ undef, K_ undef, K_ undef, K_ undef, K_ bT, K_ bT, K_ bT] (fun E7 => [(4, bT)]) (hs := c_ (cl_ Try.func38 (h := fun env => ⟨_, answers14_any, rfl⟩)) <| c_ mv_ <| c_ (gm0 (vI (taiE l day off d s a))) <| c_ (bi0 (vI (taiE l day off d s a)) (vI 0) (h := by intro env w; simp [go_sem, he])) <| c_ (gm0 bT (h := by intro env w; simp [go_sem, he])) <| c_ (ld_ 2 (hrd := by exact rd66 rfl rfl)) <| c_ (bd0 ([])) <| c_ (bi0 (vW (taiV l day off d s a)) (.agg #[vI 0, .int .u64 0]) (h := by intro env w; simp [go_sem, hv0, hi_zero, lo_zero])) <| c_ (pk0 bT bT bF (h := by intro env w; simp [go_sem, hv0, hi_zero, lo_zero])) <| c_ (gm0 bT (h := by intro env w; simp [go_sem, hv0, hi_zero, lo_zero])) <| c_ off_ <| c_ off_ <| c_ off_ <| c_ off_ <| c_ off_ <| c_ off_ <| c_ off_ <| c_ off_ <| c_ (pk0 bT bT undef) <| c_ (pk0 bT bT bF) <| c_ mv_ <| e_) (k := fun E7 ac wd h_7 => ?_)
  clear h_6
  refine then_n (wp_ret ?_)
  have s4 := h_7.g (t := 4) rfl
  refine leave (v := .bool true) h_7.df (by simp [results, Try.results12, go_sem, Array.getD_eq_getD_getElem?, s4]) ?_
  exact ⟨rfl, h_7.st.below⟩
end Go.Proofs.Ytdbhgeihphjgeaa

/- the law RubberLabels (printed by my walk.py) -/
namespace Go.Proofs.Ytdbhgeihphjgeaa
open Go.RowKit
set_option linter.unusedVariables false
set_option linter.unusedSimpArgs false
attribute [local go_sem] vN bT bF rS vSg vW vM vL vT2 vT3 vP vI execOp Act.eval evC bigF vB hi_zero lo_zero Try.underlying60 Try.underlying63 Try.underlying66
set_option maxRecDepth 100000 in
set_option maxHeartbeats 8000000 in
theorem rubberLabels_walk (w0 : World) (A0 : Option Addr) (c0 : Nat) (l : List Sg) (hl : SegU w0 (.slice A0 l.length c0) l) (day off : Int) (hd0 : -9223372036854775808 ≤ day) (hd1 : day < 9223372036854775808) (t : Int) (htw : InW t) : Calls Try.prog 13 #[.agg #[.slice A0 l.length c0, vI day, vI off], vW t] w0 fun e w' => e = .returned (.bool true) ∧ Below w0.heap.size w0 w' := by
  have hle := RowU_le hl
  have hst := St.start w0 (Θ := fun _ => True) (fun _ _ => trivial)
  refine enter Try.func13 rfl (n := 53) rfl (Nat.le_of_ble_eq_true rfl) hst (L := [(0, .agg #[.slice A0 l.length c0, vI day, vI off]), (1, vW t)]) (lk_args rfl) (fun ac h => ?_)
  replace h := h.facts
  refine wp_seq ?_
  refine rf_ h [[0],[1],[2]] [KE_ fun env => vP (pb env 0) 0, KE_ fun env => vP (pb env 1) 0, K_ bF] (fun E1 => [(2, vP (pb E1 0) 0), (3, vP (pb E1 1) 0), (4, bF)]) (W := [{ i := 0, T := 60, c0 := [.slice A0 l.length c0, vI day, vI off] }, { i := 1, T := 66, c0 := [vI (hi (t)), .int .u64 (lo (t))] }]) (M' := fun E1 => [((pb E1 0), 60, [.slice A0 l.length c0, vI day, vI off]), ((pb E1 1), 66, [vI (hi (t)), .int .u64 (lo (t))])]) (hs := c_ (bx0 0 (.agg #[.slice A0 l.length c0, vI day, vI off])) <| c_ (bx0 1 (vW t)) <| c_ mv_ <| e_) (k := fun E1 ac wd h_1 => ?_)
  clear h
  refine then_n (wp_seq ?_)
  cases hm : mayS l day off
  refine rf_ h_1 [[0],[0,1],[2],[2,3],[4],[4,5],r_ 7,r_ 8,r_ 9,[0,1,2,3,4,5,6,7,9],[0,1,2,3,4,5,6,7,8,10],r_ 12] [K_ (vP (pb E1 0) 0), K_ (.slice A0 l.length c0), K_ (vP (pb E1 0) 1), K_ (vI day), K_ (vP (pb E1 0) 2), K_ (vI off), K_ (vT2 (.pointer none) (vI 10)), K_ (vT2 (.pointer none) (vI 10)), K_ (.pointer none), K_ (vI 10), K_ (.pointer none), K_ (vI 10)] (fun E2 => [(2, vP (pb E1 0) 0), (3, vP (pb E1 1) 0), (4, bF), (5, .pointer none), (6, vI 10)]) (hs := c_ (fa0 (vP (pb E1 0) 0)) <| c_ (ld_ 0 (hrd := by exact rd50 rfl)) <| c_ (fa0 (vP (pb E1 0) 0)) <| c_ (ld_ 0 (hrd := by exact rd3 rfl)) <| c_ (fa0 (vP (pb E1 0) 0)) <| c_ (ld_ 0 (hrd := by exact rd3 rfl)) <| c_ (cw_ Try.func37 (h := fun _ env _ wd hA => ⟨_, rNew_no wd A0 c0 l (hl.grown hA.j.st.gr) day off hd0 hd1 hm, rfl⟩)) <| c_ mv_ <| c_ ext_ <| c_ ext_ <| c_ mv_ <| c_ mv_ <| e_) (k := fun E2 ac wd h_2 => ?_)
  clear h_1
  refine then_n (wp_seq (wp_seq ?_))
  refine rf_ h_2 [[0],[0,1]] [K_ (vI 10), K_ bT] (fun E3 => [(2, vP (pb E1 0) 0), (3, vP (pb E1 1) 0), (4, bF), (5, .pointer none), (22, bT)]) (hs := c_ mv_ <| c_ (bi0 (vI 10) (vI 0)) <| e_) (k := fun E3 ac wd h_3 => ?_)
  clear h_2
  refine then_n ?_
  refine wp_cond_true (eval_tmp (h_3.g (t := 22) rfl)) ?_
  refine wp_seq ?_
  refine rf_ h_3 [[0],[0,1]] [K_ bT, K_ bT] (fun E4 => [(2, vP (pb E1 0) 0), (3, vP (pb E1 1) 0), (4, bT), (5, .pointer none)]) (hs := c_ (cl_ Try.func38 (h := fun env => ⟨_, answers14_any, rfl⟩)) <| c_ mv_ <| e_) (k := fun E4 ac wd h_4 => ?_)
  clear h_3
  refine then_n (wp_ret (then_ret ?_))
  have s4 := h_4.g (t := 4) rfl
  refine leave (v := .bool true) h_4.df (by simp [results, Try.results13, go_sem, Array.getD_eq_getD_getElem?, s4]) ?_
  exact ⟨rfl, h_4.st.below⟩
  have hM := mayS_ok hm; have hL := hM.toLOk; have n0 := hL.n0
  refine rf_ h_1 [[0],[0,1],[2],[2,3],[4],[4,5],r_ 7,r_ 8,r_ 9,[0,1,2,3,4,5,6,7,9],[0,1,2,3,4,5,6,7,8,10],r_ 12] [K_ (vP (pb E1 0) 0), K_ (.slice A0 l.length c0), K_ (vP (pb E1 0) 1), K_ (vI day), K_ (vP (pb E1 0) 2), K_ (vI off), KE_ fun env => vT2 (vP (ptrB (tp (env 6) 0)) 0) (vI 0), KE_ fun env => vT2 (vP (ptrB (tp (env 6) 0)) 0) (vI 0), KE_ fun env => vP (ptrB (tp (env 6) 0)) 0, K_ (vI 0), KE_ fun env => vP (ptrB (tp (env 6) 0)) 0, K_ (vI 0)] (fun E2 => [(2, vP (pb E1 0) 0), (3, vP (pb E1 1) 0), (4, bF), (5, vP (ptrB (tp (E2 6) 0)) 0), (6, vI 0)]) (F := [(6, fun env w => NewX none w (env 6) l day off)]) (L1 := fun E2 => [fun w => NewX none w (E2 6) l day off]) (hs := c_ (fa0 (vP (pb E1 0) 0)) <| c_ (ld_ 0 (hrd := by exact rd50 rfl)) <| c_ (fa0 (vP (pb E1 0) 0)) <| c_ (ld_ 0 (hrd := by exact rd3 rfl)) <| c_ (fa0 (vP (pb E1 0) 0)) <| c_ (ld_ 0 (hrd := by exact rd3 rfl)) <| c_ (s_factT rfl rfl rfl Try.func37 (by kernel_rfl) rfl (fun _ => wanted_none rfl _) (fun v w => NewX none w v l day off) newF rfl rfl [122, 124] rfl (fun v w h => h.form) (fun v w w' hk h => h.keep hk) (fun {D env ac wd} hA => ⟨_, hA.args (vs := [.slice A0 l.length c0, vI day, vI off]) rfl, rNew_yes wd A0 c0 l (hl.grown hA.j.st.gr) day off hd0 hd1 hm (fun k h => by cases h)⟩)) <| c_ mv_ <| c_ ext_ <| c_ ext_ <| c_ mv_ <| c_ mv_ <| e_) (k := fun E2 ac wd h_2 => ?_)
  clear h_1
  refine then_n (wp_seq (wp_seq ?_))
  refine rf_ h_2 [[0],[0,1]] [K_ (vI 0), K_ bF] (fun E3 => [(2, vP (pb E1 0) 0), (3, vP (pb E1 1) 0), (4, bF), (5, vP (ptrB (tp (E2 6) 0)) 0), (22, bF)]) (hs := c_ mv_ <| c_ (bi0 (vI 0) (vI 0) (h := by intro env w; (first | (simp [go_sem]; done) | (simp [go_sem]; rfl)))) <| e_) (k := fun E3 ac wd h_3 => ?_)
  clear h_2
  refine then_n ?_
  refine wp_cond_false (eval_tmp (h_3.g (t := 22) rfl)) ?_
  refine wp_skip (then_n (wp_seq ?_))
  refine rf_ h_3 [[0],[1],[0,1,2],r_ 4,r_ 5,[0,1,2,3,5],[6],[0,1,2,3,4,6,7],r_ 9] [K_ (vP (ptrB (tp (E2 6) 0)) 0), K_ (vW t), K_ (vT2 (vL (labD l day off t) (labS l day off t) (labA l day off t)) (vI (labE l day off t))), K_ (vT2 (vL (labD l day off t) (labS l day off t) (labA l day off t)) (vI (labE l day off t))), K_ (vL (labD l day off t) (labS l day off t) (labA l day off t)), K_ (vI (labE l day off t)), KE_ fun env => vP (pb env 6) 0, none, K_ (vI (labE l day off t))] (fun E4 => [(2, vP (pb E1 0) 0), (3, vP (pb E1 1) 0), (4, bF), (7, vP (pb E4 6) 0), (8, vI (labE l day off t))]) (W := [{ i := 6, T := 63, c0 := [vI 0, vI 0, vI 0], s := some 7, c1 := fun _ => [vI (labD l day off t), vI (labS l day off t), vI (labA l day off t)] }]) (M' := fun E4 => [((pb E1 0), 60, [.slice A0 l.length c0, vI day, vI off]), ((pb E1 1), 66, [vI (hi (t)), .int .u64 (lo (t))]), ((pb E4 6), 63, [vI (labD l day off t), vI (labS l day off t), vI (labA l day off t)])]) (hs := c_ mv_ <| c_ (ld_ 1 (hrd := by exact rd66 rfl rfl)) <| c_ (cw_ Try.func45 (h := fun _ env _ wd hA => ⟨_, label_X (Facts.isR (hA.j.st.now).1 0 rfl) hL t htw, rfl⟩)) <| c_ mv_ <| c_ ext_ <| c_ ext_ <| c_ (al_ 2) <| c_ (sw_ 2 6 (hst := by exact fun _ _ _ hc => st63 rfl rfl rfl rfl hc)) <| c_ mv_ <| e_) (k := fun E4 ac wd h_4 => ?_)
  clear h_3
  refine then_n (wp_seq ?_)
  refine rf_ h_4 [[0],[0,1],[2],[2,3],[4],[4,5],[6],[6,7],r_ 9,r_ 10,r_ 11,[0,1,2,3,4,5,6,7,8,9,11],[12],[0,1,2,3,4,5,6,7,8,9,10,12,13],r_ 15] [K_ (vP (pb E1 0) 0), K_ (.slice A0 l.length c0), K_ (vP (pb E1 0) 1), K_ (vI day), K_ (vP (pb E1 0) 2), K_ (vI off), K_ (vW t), KE_ fun env => bigF t (env 7), K_ (vT2 (vL (labD l day off t) (labS l day off t) (labA l day off t)) (vI (labE l day off t))), K_ (vT2 (vL (labD l day off t) (labS l day off t) (labA l day off t)) (vI (labE l day off t))), K_ (vL (labD l day off t) (labS l day off t) (labA l day off t)), K_ (vI (labE l day off t)), KE_ fun env => vP (pb env 12) 0, none, K_ (vI (labE l day off t))] (fun E5 => [(4, bF), (7, vP (pb E4 6) 0), (8, vI (labE l day off t)), (9, vP (pb E5 12) 0), (10, vI (labE l day off t))]) (W := [{ i := 12, T := 63, c0 := [vI 0, vI 0, vI 0], s := some 13, c1 := fun _ => [vI (labD l day off t), vI (labS l day off t), vI (labA l day off t)] }]) (F := [(7, fun env w => BigN w0.heap.size w (env 7) t)]) (L1 := fun E5 => [fun w => NewX none w (E2 6) l day off, fun w => BigN w0.heap.size w (E5 7) t]) (M' := fun E5 => [((pb E1 0), 60, [.slice A0 l.length c0, vI day, vI off]), ((pb E1 1), 66, [vI (hi (t)), .int .u64 (lo (t))]), ((pb E4 6), 63, [vI (labD l day off t), vI (labS l day off t), vI (labA l day off t)]), ((pb E5 12), 63, [vI (labD l day off t), vI (labS l day off t), vI (labA l day off t)])]) (hs := c_ (fa0 (vP (pb E1 0) 0)) <| c_ (ld_ 0 (hrd := by exact rd50 rfl)) <| c_ (fa0 (vP (pb E1 0) 0)) <| c_ (ld_ 0 (hrd := by exact rd3 rfl)) <| c_ (fa0 (vP (pb E1 0) 0)) <| c_ (ld_ 0 (hrd := by exact rd3 rfl)) <| c_ (ld_ 1 (hrd := by exact rd66 rfl rfl)) <| c_ (cb_ Try.func44 t (h := fun _ env _ wd hA => ⟨_, Of_any wd t htw, rfl⟩)) <| c_ (cw_ Try.func46 (h := fun _ env _ wd hA => ⟨_, rLabel_any wd A0 c0 l (hl.grown hA.j.st.gr) day off hL _ (bA (env 7)) (bC (env 7)) t rfl (At.bigN hA 7 rfl rfl rfl), rfl⟩)) <| c_ mv_ <| c_ ext_ <| c_ ext_ <| c_ (al_ 3) <| c_ (sw_ 3 12 (hst := by exact fun _ _ _ hc => st63 rfl rfl rfl rfl hc)) <| c_ mv_ <| e_) (k := fun E5 ac wd h_5 => ?_)
  clear h_4
  refine then_n (wp_seq ?_)
  refine rf_ h_5 [[0],[0,1],[0,1,2],[0,1,3],r_ 5,r_ 6,r_ 7,r_ 8,[0,1,2,3,4,5,6,8],r_ 10,r_ 11,r_ 12] [K_ bT, K_ bT, K_ (vL (labD l day off t) (labS l day off t) (labA l day off t)), K_ (vL (labD l day off t) (labS l day off t) (labA l day off t)), K_ bT, K_ bT, K_ bT, K_ (vI (labE l day off t)), K_ (vI (labE l day off t)), K_ bT, K_ bT, K_ bT] (fun E6 => [(4, bT)]) (hs := c_ (cl_ Try.func38 (h := fun env => ⟨_, answers14_any, rfl⟩)) <| c_ mv_ <| c_ (ld_ 2 (hrd := by exact rd63 rfl rfl rfl)) <| c_ (ld_ 3 (hrd := by exact rd63 rfl rfl rfl)) <| c_ (bi0 (vL (labD l day off t) (labS l day off t) (labA l day off t)) (vL (labD l day off t) (labS l day off t) (labA l day off t)) (h := by intro env w; (first | (simp [go_sem]; done) | (simp [go_sem]; rfl)))) <| c_ (pk0 bT bT bF (h := by intro env w; (first | (simp [go_sem]; done) | (simp [go_sem]; rfl)))) <| c_ mv_ <| c_ (gm0 (vI (labE l day off t))) <| c_ (gm0 (vI (labE l day off t))) <| c_ (bi0 (vI (labE l day off t)) (vI (labE l day off t)) (h := by intro env w; (first | (simp [go_sem]; done) | (simp [go_sem]; rfl)))) <| c_ (pk0 bT bT bF (h := by intro env w; (first | (simp [go_sem]; done) | (simp [go_sem]; rfl)))) <| c_ mv_ <| e_) (k := fun E6 ac wd h_6 => ?_)
  clear h_5
  refine then_n (wp_ret ?_)
  have s4 := h_6.g (t := 4) rfl
  refine leave (v := .bool true) h_6.df (by simp [results, Try.results13, go_sem, Array.getD_eq_getD_getElem?, s4]) ?_
  exact ⟨rfl, h_6.st.below⟩
end Go.Proofs.Ytdbhgeihphjgeaa

/- the law RubberBack (printed by my walk.py) -/
namespace Go.Proofs.Ytdbhgeihphjgeaa
open Go.RowKit
set_option linter.unusedVariables false
set_option linter.unusedSimpArgs false
attribute [local go_sem] vN bT bF rS vSg vW vM vL vT2 vT3 vP vI execOp Act.eval evC bigF vB hi_zero lo_zero Try.underlying60 Try.underlying63 Try.underlying66 Try.underlying70
set_option maxRecDepth 100000 in
set_option maxHeartbeats 8000000 in
theorem rubberBack_walk (w0 : World) (A0 : Option Addr) (c0 : Nat) (l : List Sg) (hl : SegU w0 (.slice A0 l.length c0) l) (day off : Int) (hd0 : -9223372036854775808 ≤ day) (hd1 : day < 9223372036854775808) (d s a : Int) (hx0 : -9223372036854775808 ≤ d) (hx1 : d < 9223372036854775808) (hx2 : -9223372036854775808 ≤ s) (hx3 : s < 9223372036854775808) (hx4 : -9223372036854775808 ≤ a) (hx5 : a < 9223372036854775808) (t : Int) (htw : InW t) : Calls Try.prog 14 #[.agg #[.slice A0 l.length c0, vI day, vI off], vL d s a, vW t] w0 fun e w' => e = .returned (.bool true) ∧ Below w0.heap.size w0 w' := by
  have hle := RowU_le hl
  have hst := St.start w0 (Θ := fun _ => True) (fun _ _ => trivial)
  refine enter Try.func14 rfl (n := 87) rfl (Nat.le_of_ble_eq_true rfl) hst (L := [(0, .agg #[.slice A0 l.length c0, vI day, vI off]), (1, vL d s a), (2, vW t)]) (lk_args rfl) (fun ac h => ?_)
  replace h := h.facts
  refine wp_seq ?_
  refine rf_ h [[0],[1],[2],[3]] [KE_ fun env => vP (pb env 0) 0, KE_ fun env => vP (pb env 1) 0, KE_ fun env => vP (pb env 2) 0, K_ bF] (fun E1 => [(3, vP (pb E1 0) 0), (4, vP (pb E1 1) 0), (5, vP (pb E1 2) 0), (6, bF)]) (W := [{ i := 0, T := 60, c0 := [.slice A0 l.length c0, vI day, vI off] }, { i := 1, T := 63, c0 := [vI d, vI s, vI a] }, { i := 2, T := 66, c0 := [vI (hi (t)), .int .u64 (lo (t))] }]) (M' := fun E1 => [((pb E1 0), 60, [.slice A0 l.length c0, vI day, vI off]), ((pb E1 1), 63, [vI d, vI s, vI a]), ((pb E1 2), 66, [vI (hi (t)), .int .u64 (lo (t))])]) (hs := c_ (bx0 0 (.agg #[.slice A0 l.length c0, vI day, vI off])) <| c_ (bx0 1 (vL d s a)) <| c_ (bx0 2 (vW t)) <| c_ mv_ <| e_) (k := fun E1 ac wd h_1 => ?_)
  clear h
  refine then_n (wp_seq ?_)
  cases hm : mayS l day off
  refine rf_ h_1 [[0],[0,1],[2],[2,3],[4],[4,5],r_ 7,r_ 8,r_ 9,[0,1,2,3,4,5,6,7,9],[0,1,2,3,4,5,6,7,8,10],r_ 12] [K_ (vP (pb E1 0) 0), K_ (.slice A0 l.length c0), K_ (vP (pb E1 0) 1), K_ (vI day), K_ (vP (pb E1 0) 2), K_ (vI off), K_ (vT2 (.pointer none) (vI 10)), K_ (vT2 (.pointer none) (vI 10)), K_ (.pointer none), K_ (vI 10), K_ (.pointer none), K_ (vI 10)] (fun E2 => [(4, vP (pb E1 1) 0), (5, vP (pb E1 2) 0), (6, bF), (7, .pointer none), (8, vI 10)]) (hs := c_ (fa0 (vP (pb E1 0) 0)) <| c_ (ld_ 0 (hrd := by exact rd50 rfl)) <| c_ (fa0 (vP (pb E1 0) 0)) <| c_ (ld_ 0 (hrd := by exact rd3 rfl)) <| c_ (fa0 (vP (pb E1 0) 0)) <| c_ (ld_ 0 (hrd := by exact rd3 rfl)) <| c_ (cw_ Try.func37 (h := fun _ env _ wd hA => ⟨_, rNew_no wd A0 c0 l (hl.grown hA.j.st.gr) day off hd0 hd1 hm, rfl⟩)) <| c_ mv_ <| c_ ext_ <| c_ ext_ <| c_ mv_ <| c_ mv_ <| e_) (k := fun E2 ac wd h_2 => ?_)
  clear h_1
  refine then_n (wp_seq (wp_seq ?_))
  refine rf_ h_2 [[0],[0,1]] [K_ (vI 10), K_ bT] (fun E3 => [(4, vP (pb E1 1) 0), (5, vP (pb E1 2) 0), (6, bF), (7, .pointer none), (29, bT)]) (hs := c_ mv_ <| c_ (bi0 (vI 10) (vI 0)) <| e_) (k := fun E3 ac wd h_3 => ?_)
  clear h_2
  refine then_n ?_
  refine wp_cond_true (eval_tmp (h_3.g (t := 29) rfl)) ?_
  refine wp_seq ?_
  refine rf_ h_3 [[0],[0,1]] [K_ bT, K_ bT] (fun E4 => [(4, vP (pb E1 1) 0), (5, vP (pb E1 2) 0), (6, bT), (7, .pointer none)]) (hs := c_ (cl_ Try.func38 (h := fun env => ⟨_, answers14_any, rfl⟩)) <| c_ mv_ <| e_) (k := fun E4 ac wd h_4 => ?_)
  clear h_3
  refine then_n (wp_ret (then_ret ?_))
  have s6 := h_4.g (t := 6) rfl
  refine leave (v := .bool true) h_4.df (by simp [results, Try.results14, go_sem, Array.getD_eq_getD_getElem?, s6]) ?_
  exact ⟨rfl, h_4.st.below⟩
  have hM := mayS_ok hm; have hL := hM.toLOk; have n0 := hL.n0
  refine rf_ h_1 [[0],[0,1],[2],[2,3],[4],[4,5],r_ 7,r_ 8,r_ 9,[0,1,2,3,4,5,6,7,9],[0,1,2,3,4,5,6,7,8,10],r_ 12] [K_ (vP (pb E1 0) 0), K_ (.slice A0 l.length c0), K_ (vP (pb E1 0) 1), K_ (vI day), K_ (vP (pb E1 0) 2), K_ (vI off), KE_ fun env => vT2 (vP (ptrB (tp (env 6) 0)) 0) (vI 0), KE_ fun env => vT2 (vP (ptrB (tp (env 6) 0)) 0) (vI 0), KE_ fun env => vP (ptrB (tp (env 6) 0)) 0, K_ (vI 0), KE_ fun env => vP (ptrB (tp (env 6) 0)) 0, K_ (vI 0)] (fun E2 => [(4, vP (pb E1 1) 0), (5, vP (pb E1 2) 0), (6, bF), (7, vP (ptrB (tp (E2 6) 0)) 0), (8, vI 0)]) (F := [(6, fun env w => NewX none w (env 6) l day off)]) (L1 := fun E2 => [fun w => NewX none w (E2 6) l day off]) (hs := c_ (fa0 (vP (pb E1 0) 0)) <| c_ (ld_ 0 (hrd := by exact rd50 rfl)) <| c_ (fa0 (vP (pb E1 0) 0)) <| c_ (ld_ 0 (hrd := by exact rd3 rfl)) <| c_ (fa0 (vP (pb E1 0) 0)) <| c_ (ld_ 0 (hrd := by exact rd3 rfl)) <| c_ (s_factT rfl rfl rfl Try.func37 (by kernel_rfl) rfl (fun _ => wanted_none rfl _) (fun v w => NewX none w v l day off) newF rfl rfl [122, 124] rfl (fun v w h => h.form) (fun v w w' hk h => h.keep hk) (fun {D env ac wd} hA => ⟨_, hA.args (vs := [.slice A0 l.length c0, vI day, vI off]) rfl, rNew_yes wd A0 c0 l (hl.grown hA.j.st.gr) day off hd0 hd1 hm (fun k h => by cases h)⟩)) <| c_ mv_ <| c_ ext_ <| c_ ext_ <| c_ mv_ <| c_ mv_ <| e_) (k := fun E2 ac wd h_2 => ?_)
  clear h_1
  refine then_n (wp_seq (wp_seq ?_))
  refine rf_ h_2 [[0],[0,1]] [K_ (vI 0), K_ bF] (fun E3 => [(4, vP (pb E1 1) 0), (5, vP (pb E1 2) 0), (6, bF), (7, vP (ptrB (tp (E2 6) 0)) 0), (29, bF)]) (hs := c_ mv_ <| c_ (bi0 (vI 0) (vI 0) (h := by intro env w; (first | (simp [go_sem]; done) | (simp [go_sem]; rfl)))) <| e_) (k := fun E3 ac wd h_3 => ?_)
  clear h_2
  refine then_n ?_
  refine wp_cond_false (eval_tmp (h_3.g (t := 29) rfl)) ?_
  refine wp_skip (then_n (wp_seq (wp_seq ?_)))
  refine rf_ h_3 [[0],[1],[0,1,2],r_ 4,r_ 5,[0,1,2,3,5],[6],[0,1,2,3,4,6,7],r_ 9] [K_ (vP (ptrB (tp (E2 6) 0)) 0), K_ (vL d s a), K_ (vT2 (vW (taiV l day off d s a)) (vI (taiE l day off d s a))), K_ (vT2 (vW (taiV l day off d s a)) (vI (taiE l day off d s a))), K_ (vW (taiV l day off d s a)), K_ (vI (taiE l day off d s a)), KE_ fun env => vP (pb env 6) 0, none, K_ (vI (taiE l day off d s a))] (fun E4 => [(4, vP (pb E1 1) 0), (5, vP (pb E1 2) 0), (6, bF), (7, vP (ptrB (tp (E2 6) 0)) 0), (9, vP (pb E4 6) 0), (10, vI (taiE l day off d s a))]) (W := [{ i := 6, T := 66, c0 := [vI 0, .int .u64 0], s := some 7, c1 := fun _ => [vI (hi (taiV l day off d s a)), .int .u64 (lo (taiV l day off d s a))] }]) (M' := fun E4 => [((pb E1 0), 60, [.slice A0 l.length c0, vI day, vI off]), ((pb E1 1), 63, [vI d, vI s, vI a]), ((pb E1 2), 66, [vI (hi (t)), .int .u64 (lo (t))]), ((pb E4 6), 66, [vI (hi (taiV l day off d s a)), .int .u64 (lo (taiV l day off d s a))])]) (hs := c_ mv_ <| c_ (ld_ 1 (hrd := by exact rd63 rfl rfl rfl)) <| c_ (cw_ Try.func41 (h := fun _ env _ wd hA => ⟨_, tai_X (Facts.isR (hA.j.st.now).1 0 rfl) hL d s a hx0 hx1, rfl⟩)) <| c_ mv_ <| c_ ext_ <| c_ ext_ <| c_ (al_ 3) <| c_ (sw_ 3 6 (hst := by exact fun _ _ _ hc => st66 rfl rfl rfl hc)) <| c_ mv_ <| e_) (k := fun E4 ac wd h_4 => ?_)
  clear h_3
  refine then_n (wp_seq ?_)
  by_cases he : taiE l day off d s a = 0
  refine rf_ h_4 [[0],[0,1]] [K_ (vI (taiE l day off d s a)), K_ bT] (fun E5 => [(4, vP (pb E1 1) 0), (5, vP (pb E1 2) 0), (6, bF), (7, vP (ptrB (tp (E2 6) 0)) 0), (9, vP (pb E4 6) 0), (38, bT)]) (hs := c_ mv_ <| c_ (bi0 (vI (taiE l day off d s a)) (vI 0) (h := by intro env w; simp [go_sem, he])) <| e_) (k := fun E5 ac wd h_5 => ?_)
  clear h_4
  refine then_n ?_
  refine wp_cond_true (eval_tmp (h_5.g (t := 38) rfl)) ?_
  refine wp_seq ?_
  refine rf_ h_5 [[0],[1],[0,1,2],r_ 4,r_ 5,[0,1,2,3,5],[6],[0,1,2,3,4,6,7],r_ 9] [K_ (vP (ptrB (tp (E2 6) 0)) 0), K_ (vW (taiV l day off d s a)), K_ (vT2 (vL d s a) (vI 0)), K_ (vT2 (vL d s a) (vI 0)), K_ (vL d s a), K_ (vI 0), KE_ fun env => vP (pb env 6) 0, none, K_ (vI 0)] (fun E6 => [(4, vP (pb E1 1) 0), (5, vP (pb E1 2) 0), (6, bF), (7, vP (ptrB (tp (E2 6) 0)) 0), (11, vP (pb E6 6) 0), (12, vI 0)]) (W := [{ i := 6, T := 63, c0 := [vI 0, vI 0, vI 0], s := some 7, c1 := fun _ => [vI d, vI s, vI a] }]) (M' := fun E6 => [((pb E1 0), 60, [.slice A0 l.length c0, vI day, vI off]), ((pb E1 1), 63, [vI d, vI s, vI a]), ((pb E1 2), 66, [vI (hi (t)), .int .u64 (lo (t))]), ((pb E4 6), 66, [vI (hi (taiV l day off d s a)), .int .u64 (lo (taiV l day off d s a))]), ((pb E6 6), 63, [vI d, vI s, vI a])]) (hs := c_ mv_ <| c_ (ld_ 3 (hrd := by exact rd66 rfl rfl)) <| c_ (cw_ Try.func45 (h := fun _ env _ wd hA => ⟨_, (res_eq (label_X (Facts.isR (hA.j.st.now).1 0 rfl) hL (taiV l day off d s a) (taiV_in hM d s a)) (lab_val hM he)), rfl⟩)) <| c_ mv_ <| c_ ext_ <| c_ ext_ <| c_ (al_ 4) <| c_ (sw_ 4 6 (hst := by exact fun _ _ _ hc => st63 rfl rfl rfl rfl hc)) <| c_ mv_ <| e_) (k := fun E6 ac wd h_6 => ?_)
  clear h_5
  refine then_n (wp_seq ?_)
  refine rf_ h_6 [[0],[0,1],[0,1,2],r_ 4,[0,1,2,4],r_ 6,r_ 7] [K_ (vI 0), K_ bF, K_ bF, K_ (vL d s a), K_ (vL d s a), K_ bF, K_ bF] (fun E7 => [(5, vP (pb E1 2) 0), (6, bF), (7, vP (ptrB (tp (E2 6) 0)) 0), (51, bF)]) (hs := c_ mv_ <| c_ (bi0 (vI 0) (vI 0) (h := by intro env w; (first | (simp [go_sem]; done) | (simp [go_sem]; rfl)))) <| c_ mv_ <| c_ (ld_ 4 (hrd := by exact rd63 rfl rfl rfl)) <| c_ (ld_ 1 (hrd := by exact rd63 rfl rfl rfl)) <| c_ (bi0 (vL d s a) (vL d s a) (h := by intro env w; (first | (simp [go_sem]; done) | (simp [go_sem]; rfl)))) <| c_ (pk0 bF bT bF (h := by intro env w; (first | (simp [go_sem]; done) | (simp [go_sem]; rfl)))) <| e_) (k := fun E7 ac wd h_7 => ?_)
  clear h_6
  refine then_n ?_
  refine wp_cond_false (eval_tmp (h_7.g (t := 51) rfl)) ?_
  refine wp_skip (then_n (wp_seq ?_))
  refine rf_ h_7 [[0],[1],[0,1,2],r_ 4,r_ 5,[0,1,2,3,5],[6],[0,1,2,3,4,6,7],r_ 9] [K_ (vP (ptrB (tp (E2 6) 0)) 0), K_ (vW t), K_ (vT2 (vL (labD l day off t) (labS l day off t) (labA l day off t)) (vI (labE l day off t))), K_ (vT2 (vL (labD l day off t) (labS l day off t) (labA l day off t)) (vI (labE l day off t))), K_ (vL (labD l day off t) (labS l day off t) (labA l day off t)), K_ (vI (labE l day off t)), KE_ fun env => vP (pb env 6) 0, none, K_ (vI (labE l day off t))] (fun E8 => [(5, vP (pb E1 2) 0), (6, bF), (7, vP (ptrB (tp (E2 6) 0)) 0), (13, vP (pb E8 6) 0), (14, vI (labE l day off t))]) (W := [{ i := 6, T := 63, c0 := [vI 0, vI 0, vI 0], s := some 7, c1 := fun _ => [vI (labD l day off t), vI (labS l day off t), vI (labA l day off t)] }]) (M' := fun E8 => [((pb E1 0), 60, [.slice A0 l.length c0, vI day, vI off]), ((pb E1 1), 63, [vI d, vI s, vI a]), ((pb E1 2), 66, [vI (hi (t)), .int .u64 (lo (t))]), ((pb E4 6), 66, [vI (hi (taiV l day off d s a)), .int .u64 (lo (taiV l day off d s a))]), ((pb E6 6), 63, [vI d, vI s, vI a]), ((pb E8 6), 63, [vI (labD l day off t), vI (labS l day off t), vI (labA l day off t)])]) (hs := c_ mv_ <| c_ (ld_ 2 (hrd := by exact rd66 rfl rfl)) <| c_ (cw_ Try.func45 (h := fun _ env _ wd hA => ⟨_, label_X (Facts.isR (hA.j.st.now).1 0 rfl) hL t htw, rfl⟩)) <| c_ mv_ <| c_ ext_ <| c_ ext_ <| c_ (al_ 5) <| c_ (sw_ 5 6 (hst := by exact fun _ _ _ hc => st63 rfl rfl rfl rfl hc)) <| c_ mv_ <| e_) (k := fun E8 ac wd h_8 => ?_)
  clear h_7
  refine then_n (wp_seq (wp_seq ?_))
  by_cases hf : labE l day off t = 0
  obtain ⟨q1, q2⟩ := lab_tai hM hf; obtain ⟨l0, l1⟩ := lab_64 hM t; have hnb := taiV_bd hM (labD l day off t) (labS l day off t) (labA l day off t); obtain ⟨n, hn⟩ : ∃ n, taiV l day off (labD l day off t) (labS l day off t) (labA l day off t) = n := ⟨_, rfl⟩; rw [hn] at q2 hnb; have htw2 := htw; unfold InW at htw2
  refine rf_ h_8 [[0],[0,1]] [K_ (vI (labE l day off t)), K_ bF] (fun E9 => [(5, vP (pb E1 2) 0), (6, bF), (7, vP (ptrB (tp (E2 6) 0)) 0), (13, vP (pb E8 6) 0), (59, bF)]) (hs := c_ mv_ <| c_ (bi0 (vI (labE l day off t)) (vI 0) (h := by intro env w; simp [go_sem, hf])) <| e_) (k := fun E9 ac wd h_9 => ?_)
  clear h_8
  refine then_n ?_
  refine wp_cond_false (eval_tmp (h_9.g (t := 59) rfl)) ?_
  refine wp_skip (then_n (wp_seq ?_))
  refine rf_ h_9 [[0],[1],[0,1,2],r_ 4,r_ 5,[0,1,2,3,5],[6],[0,1,2,3,4,6,7],r_ 9] [K_ (vP (ptrB (tp (E2 6) 0)) 0), K_ (vL (labD l day off t) (labS l day off t) (labA l day off t)), K_ (vT2 (vW n) (vI 0)), K_ (vT2 (vW n) (vI 0)), K_ (vW n), K_ (vI 0), KE_ fun env => vP (pb env 6) 0, none, K_ (vI 0)] (fun E10 => [(5, vP (pb E1 2) 0), (6, bF), (15, vP (pb E10 6) 0), (16, vI 0)]) (W := [{ i := 6, T := 66, c0 := [vI 0, .int .u64 0], s := some 7, c1 := fun _ => [vI (hi (n)), .int .u64 (lo (n))] }]) (M' := fun E10 => [((pb E1 0), 60, [.slice A0 l.length c0, vI day, vI off]), ((pb E1 1), 63, [vI d, vI s, vI a]), ((pb E1 2), 66, [vI (hi (t)), .int .u64 (lo (t))]), ((pb E4 6), 66, [vI (hi (taiV l day off d s a)), .int .u64 (lo (taiV l day off d s a))]), ((pb E6 6), 63, [vI d, vI s, vI a]), ((pb E8 6), 63, [vI (labD l day off t), vI (labS l day off t), vI (labA l day off t)]), ((pb E10 6), 66, [vI (hi (n)), .int .u64 (lo (n))])]) (hs := c_ mv_ <| c_ (ld_ 5 (hrd := by exact rd63 rfl rfl rfl)) <| c_ (cw_ Try.func41 (h := fun _ env _ wd hA => ⟨_, (res_eq (tai_X (Facts.isR (hA.j.st.now).1 0 rfl) hL (labD l day off t) (labS l day off t) (labA l day off t) l0 l1) (tt_eq (congrArg vW hn) (congrArg vI q1))), rfl⟩)) <| c_ mv_ <| c_ ext_ <| c_ ext_ <| c_ (al_ 6) <| c_ (sw_ 6 6 (hst := by exact fun _ _ _ hc => st66 rfl rfl rfl hc)) <| c_ mv_ <| e_) (k := fun E10 ac wd h_10 => ?_)
  clear h_9
  refine then_n (wp_seq ?_)
  refine rf_ h_10 [[0],[0,1],[2],r_ 4,r_ 5,[5],r_ 7] [K_ (vW t), KE_ fun env => bigF t (env 1), K_ (vW n), KE_ fun env => bigF n (env 3), KE_ fun env => bigF (t - n) (env 4), KE_ fun env => vP (pb env 5) 0, none] (fun E11 => [(6, bF), (16, vI 0), (17, vP (pb E11 5) 0)]) (W := [{ i := 5, T := 70, c0 := [bF, .slice none 0 0], s := some 6, c1 := fun env => [.bool (decide (t - n < 0)), rS (t - n) ((bA (env 4))) ((bC (env 4)))] }]) (F := [(1, fun env w => BigN w0.heap.size w (env 1) t), (3, fun env w => BigN w0.heap.size w (env 3) n), (4, fun env w => BigN w0.heap.size w (env 4) (t - n))]) (L1 := fun E11 => [fun w => NewX none w (E2 6) l day off, fun w => BigN w0.heap.size w (E11 1) t, fun w => BigN w0.heap.size w (E11 3) n, fun w => BigN w0.heap.size w (E11 4) (t - n)]) (M' := fun E11 => [((pb E1 0), 60, [.slice A0 l.length c0, vI day, vI off]), ((pb E1 1), 63, [vI d, vI s, vI a]), ((pb E1 2), 66, [vI (hi (t)), .int .u64 (lo (t))]), ((pb E4 6), 66, [vI (hi (taiV l day off d s a)), .int .u64 (lo (taiV l day off d s a))]), ((pb E6 6), 63, [vI d, vI s, vI a]), ((pb E8 6), 63, [vI (labD l day off t), vI (labS l day off t), vI (labA l day off t)]), ((pb E10 6), 66, [vI (hi (n)), .int .u64 (lo (n))]), ((pb E11 5), 70, [.bool (decide (t - n < 0)), rS (t - n) ((bA (E11 4))) ((bC (E11 4)))])]) (hs := c_ (ld_ 2 (hrd := by exact rd66 rfl rfl)) <| c_ (cb_ Try.func44 t (h := fun _ env _ wd hA => ⟨_, Of_any wd t htw, rfl⟩)) <| c_ (ld_ 6 (hrd := by exact rd66 rfl rfl)) <| c_ (cb_ Try.func44 n (h := fun _ env _ wd hA => ⟨_, Of_any wd n (by unfold InW; omega), rfl⟩)) <| c_ (cb_ Try.func47 (t - n) (h := fun _ env _ wd hA => ⟨_, Sub_any wd (decide (t < 0)) (bA (env 1)) (bC (env 1)) t rfl (At.bigN hA 1 rfl rfl rfl) (by unfold Sm; omega) (decide (n < 0)) (bA (env 3)) (bC (env 3)) n rfl (At.bigN hA 3 rfl rfl rfl) (by unfold Sm; omega), rfl⟩)) <| c_ (al_ 7) <| c_ (sw_ 7 5 (hst := by exact fun _ _ _ hc => st70 rfl rfl rfl hc)) <| e_) (k := fun E11 ac wd h_11 => ?_)
  clear h_10
  refine then_n (wp_seq ?_)
  by_cases h0 : n = t
  refine rf_ h_11 [[0],[0,1],[0,1,2],r_ 4,r_ 5,r_ 6,r_ 7,[0,1,2,3,4,5,7],r_ 9,r_ 10,r_ 11,[0,1,2,3,4,5,6,7,8,9,11],r_ 13,r_ 14,r_ 15,r_ 16] [K_ bT, K_ bT, K_ (vI 0), K_ bT, K_ bT, K_ bT, K_ (bigF (t - n) (E11 4)), KE_ fun env => bigF 0 (env 7), K_ bT, K_ bT, K_ undef, K_ undef, K_ undef, K_ bT, K_ bT, K_ bT] (fun E12 => [(6, bT)]) (F := [(7, fun env w => BigN w0.heap.size w (env 7) 0)]) (L1 := fun E12 => [fun w => NewX none w (E2 6) l day off, fun w => BigN w0.heap.size w (E11 1) t, fun w => BigN w0.heap.size w (E11 3) n, fun w => BigN w0.heap.size w (E11 4) (t - n), fun w => BigN w0.heap.size w (E12 7) 0]) (hs := c_ (cl_ Try.func38 (h := fun env => ⟨_, answers14_any, rfl⟩)) <| c_ mv_ <| c_ (gm0 (vI 0)) <| c_ (bi0 (vI 0) (vI 0) (h := by intro env w; (first | (simp [go_sem]; done) | (simp [go_sem]; rfl)))) <| c_ (pk0 bT bT bF (h := by intro env w; (first | (simp [go_sem]; done) | (simp [go_sem]; rfl)))) <| c_ mv_ <| c_ (ld_ 7 (hrd := by exact rd70 rfl rfl)) <| c_ (cb_ Try.func48 0 (h := fun _ env _ wd hA => ⟨_, Int_any wd 0 (by omega) (by omega), rfl⟩)) <| c_ (cw_ Try.func43 (h := fun _ env _ wd hA => ⟨_, (res_eq (Same_any wd (decide (t - n < 0)) (bA (E11 4)) (bC (E11 4)) (t - n) rfl (Facts.bigN (hA.j.st.now).1 3 rfl)  (decide (0 < 0)) (bA (env 7)) (bC (env 7)) 0 rfl (At.bigN hA 7 rfl rfl rfl) ) (congrArg Value.bool (decide_eq_true (by omega)))), rfl⟩)) <| c_ (gm0 bT) <| c_ off_ <| c_ off_ <| c_ off_ <| c_ (pk0 bT bT undef) <| c_ (pk0 bT bT bF) <| c_ mv_ <| e_) (k := fun E12 ac wd h_12 => ?_)
  clear h_11
  refine then_n (wp_ret ?_)
  have s6 := h_12.g (t := 6) rfl
  refine leave (v := .bool true) h_12.df (by simp [results, Try.results14, go_sem, Array.getD_eq_getD_getElem?, s6]) ?_
  exact ⟨rfl, h_12.st.below⟩
  refine rf_ h_11 [[0],[0,1],[0,1,2],r_ 4,r_ 5,r_ 6,r_ 7,[0,1,2,3,4,5,7],r_ 9,r_ 10,r_ 11,[0,1,2,3,4,5,6,7,8,9,11],r_ 13,r_ 14,r_ 15,r_ 16] [K_ bT, K_ bT, K_ (vI 0), K_ bT, K_ bT, K_ bT, K_ (bigF (t - n) (E11 4)), KE_ fun env => bigF 0 (env 7), K_ bF, K_ bF, K_ (bigF (t - n) (E11 4)), KE_ fun env => bigF 1 (env 11), K_ bT, K_ bT, K_ bT, K_ bT] (fun E12 => [(6, bT)]) (F := [(7, fun env w => BigN w0.heap.size w (env 7) 0), (11, fun env w => BigN w0.heap.size w (env 11) 1)]) (L1 := fun E12 => [fun w => NewX none w (E2 6) l day off, fun w => BigN w0.heap.size w (E11 1) t, fun w => BigN w0.heap.size w (E11 3) n, fun w => BigN w0.heap.size w (E11 4) (t - n), fun w => BigN w0.heap.size w (E12 7) 0, fun w => BigN w0.heap.size w (E12 11) 1]) (hs := c_ (cl_ Try.func38 (h := fun env => ⟨_, answers14_any, rfl⟩)) <| c_ mv_ <| c_ (gm0 (vI 0)) <| c_ (bi0 (vI 0) (vI 0) (h := by intro env w; (first | (simp [go_sem]; done) | (simp [go_sem]; rfl)))) <| c_ (pk0 bT bT bF (h := by intro env w; (first | (simp [go_sem]; done) | (simp [go_sem]; rfl)))) <| c_ mv_ <| c_ (ld_ 7 (hrd := by exact rd70 rfl rfl)) <| c_ (cb_ Try.func48 0 (h := fun _ env _ wd hA => ⟨_, Int_any wd 0 (by omega) (by omega), rfl⟩)) <| c_ (cw_ Try.func43 (h := fun _ env _ wd hA => ⟨_, (res_eq (Same_any wd (decide (t - n < 0)) (bA (E11 4)) (bC (E11 4)) (t - n) rfl (Facts.bigN (hA.j.st.now).1 3 rfl)  (decide (0 < 0)) (bA (env 7)) (bC (env 7)) 0 rfl (At.bigN hA 7 rfl rfl rfl) ) (congrArg Value.bool (decide_eq_false (by omega)))), rfl⟩)) <| c_ (gm0 bF) <| c_ (ld_ 7 (hrd := by exact rd70 rfl rfl)) <| c_ (cb_ Try.func48 1 (h := fun _ env _ wd hA => ⟨_, Int_any wd 1 (by omega) (by omega), rfl⟩)) <| c_ (cw_ Try.func43 (h := fun _ env _ wd hA => ⟨_, (res_eq (Same_any wd (decide (t - n < 0)) (bA (E11 4)) (bC (E11 4)) (t - n) rfl (Facts.bigN (hA.j.st.now).1 3 rfl)  (decide (1 < 0)) (bA (env 11)) (bC (env 11)) 1 rfl (At.bigN hA 11 rfl rfl rfl) ) (congrArg Value.bool (decide_eq_true (by omega)))), rfl⟩)) <| c_ (pk0 bF bT bT) <| c_ (pk0 bT bT bF) <| c_ mv_ <| e_) (k := fun E12 ac wd h_12 => ?_)
  clear h_11
  refine then_n (wp_ret ?_)
  have s6 := h_12.g (t := 6) rfl
  refine leave (v := .bool true) h_12.df (by simp [results, Try.results14, go_sem, Array.getD_eq_getD_getElem?, s6]) ?_
  exact ⟨rfl, h_12.st.below⟩
  refine rf_ h_8 [[0],[0,1]] [K_ (vI (labE l day off t)), K_ bT] (fun E9 => [(5, vP (pb E1 2) 0), (6, bF), (7, vP (ptrB (tp (E2 6) 0)) 0), (13, vP (pb E8 6) 0), (59, bT)]) (hs := c_ mv_ <| c_ (bi0 (vI (labE l day off t)) (vI 0) (h := by intro env w; simp [go_sem, hf])) <| e_) (k := fun E9 ac wd h_9 => ?_)
  clear h_8
  refine then_n ?_
  refine wp_cond_true (eval_tmp (h_9.g (t := 59) rfl)) ?_
  refine wp_seq ?_
  refine rf_ h_9 [[0],[0,1]] [K_ bT, K_ bT] (fun E10 => [(5, vP (pb E1 2) 0), (6, bT), (7, vP (ptrB (tp (E2 6) 0)) 0), (13, vP (pb E8 6) 0)]) (hs := c_ (cl_ Try.func38 (h := fun env => ⟨_, answers14_any, rfl⟩)) <| c_ mv_ <| e_) (k := fun E10 ac wd h_10 => ?_)
  clear h_9
  refine then_n (wp_ret (then_ret ?_))
  have s6 := h_10.g (t := 6) rfl
  refine leave (v := .bool true) h_10.df (by simp [results, Try.results14, go_sem, Array.getD_eq_getD_getElem?, s6]) ?_
  exact ⟨rfl, h_10.st.below⟩
  refine rf_ h_4 [[0],[0,1]] [K_ (vI (taiE l day off d s a)), K_ bF] (fun E5 => [(4, vP (pb E1 1) 0), (5, vP (pb E1 2) 0), (6, bF), (7, vP (ptrB (tp (E2 6) 0)) 0), (9, vP (pb E4 6) 0), (38, bF)]) (hs := c_ mv_ <| c_ (bi0 (vI (taiE l day off d s a)) (vI 0) (h := by intro env w; simp [go_sem, he])) <| e_) (k := fun E5 ac wd h_5 => ?_)
  clear h_4
  refine then_n ?_
  refine wp_cond_false (eval_tmp (h_5.g (t := 38) rfl)) ?_
  refine wp_skip (then_n (wp_seq ?_))
  refine rf_ h_5 [[0],[1],[0,1,2],r_ 4,r_ 5,[0,1,2,3,5],[6],[0,1,2,3,4,6,7],r_ 9] [K_ (vP (ptrB (tp (E2 6) 0)) 0), K_ (vW t), K_ (vT2 (vL (labD l day off t) (labS l day off t) (labA l day off t)) (vI (labE l day off t))), K_ (vT2 (vL (labD l day off t) (labS l day off t) (labA l day off t)) (vI (labE l day off t))), K_ (vL (labD l day off t) (labS l day off t) (labA l day off t)), K_ (vI (labE l day off t)), KE_ fun env => vP (pb env 6) 0, none, K_ (vI (labE l day off t))] (fun E6 => [(5, vP (pb E1 2) 0), (6, bF), (7, vP (ptrB (tp (E2 6) 0)) 0), (13, vP (pb E6 6) 0), (14, vI (labE l day off t))]) (W := [{ i := 6, T := 63, c0 := [vI 0, vI 0, vI 0], s := some 7, c1 := fun _ => [vI (labD l day off t), vI (labS l day off t), vI (labA l day off t)] }]) (M' := fun E6 => [((pb E1 0), 60, [.slice A0 l.length c0, vI day, vI off]), ((pb E1 1), 63, [vI d, vI s, vI a]), ((pb E1 2), 66, [vI (hi (t)), .int .u64 (lo (t))]), ((pb E4 6), 66, [vI (hi (taiV l day off d s a)), .int .u64 (lo (taiV l day off d s a))]), ((pb E6 6), 63, [vI (labD l day off t), vI (labS l day off t), vI (labA l day off t)])]) (hs := c_ mv_ <| c_ (ld_ 2 (hrd := by exact rd66 rfl rfl)) <| c_ (cw_ Try.func45 (h := fun _ env _ wd hA => ⟨_, label_X (Facts.isR (hA.j.st.now).1 0 rfl) hL t htw, rfl⟩)) <| c_ mv_ <| c_ ext_ <| c_ ext_ <| c_ (al_ 4) <| c_ (sw_ 4 6 (hst := by exact fun _ _ _ hc => st63 rfl rfl rfl rfl hc)) <| c_ mv_ <| e_) (k := fun E6 ac wd h_6 => ?_)
  clear h_5
  refine then_n (wp_seq (wp_seq ?_))
  by_cases hf : labE l day off t = 0
  obtain ⟨q1, q2⟩ := lab_tai hM hf; obtain ⟨l0, l1⟩ := lab_64 hM t; have hnb := taiV_bd hM (labD l day off t) (labS l day off t) (labA l day off t); obtain ⟨n, hn⟩ : ∃ n, taiV l day off (labD l day off t) (labS l day off t) (labA l day off t) = n := ⟨_, rfl⟩; rw [hn] at q2 hnb; have htw2 := htw; unfold InW at htw2
  refine rf_ h_6 [[0],[0,1]] [K_ (vI (labE l day off t)), K_ bF] (fun E7 => [(5, vP (pb E1 2) 0), (6, bF), (7, vP (ptrB (tp (E2 6) 0)) 0), (13, vP (pb E6 6) 0), (59, bF)]) (hs := c_ mv_ <| c_ (bi0 (vI (labE l day off t)) (vI 0) (h := by intro env w; simp [go_sem, hf])) <| e_) (k := fun E7 ac wd h_7 => ?_)
  clear h_6
  refine then_n ?_
  refine wp_cond_false (eval_tmp (h_7.g (t := 59) rfl)) ?_
  refine wp_skip (then_n (wp_seq ?_))
  refine rf_ h_7 [[0],[1],[0,1,2],r_ 4,r_ 5,[0,1,2,3,5],[6],[0,1,2,3,4,6,7],r_ 9] [K_ (vP (ptrB (tp (E2 6) 0)) 0), K_ (vL (labD l day off t) (labS l day off t) (labA l day off t)), K_ (vT2 (vW n) (vI 0)), K_ (vT2 (vW n) (vI 0)), K_ (vW n), K_ (vI 0), KE_ fun env => vP (pb env 6) 0, none, K_ (vI 0)] (fun E8 => [(5, vP (pb E1 2) 0), (6, bF), (15, vP (pb E8 6) 0), (16, vI 0)]) (W := [{ i := 6, T := 66, c0 := [vI 0, .int .u64 0], s := some 7, c1 := fun _ => [vI (hi (n)), .int .u64 (lo (n))] }]) (M' := fun E8 => [((pb E1 0), 60, [.slice A0 l.length c0, vI day, vI off]), ((pb E1 1), 63, [vI d, vI s, vI a]), ((pb E1 2), 66, [vI (hi (t)), .int .u64 (lo (t))]), ((pb E4 6), 66, [vI (hi (taiV l day off d s a)), .int .u64 (lo (taiV l day off d s a))]), ((pb E6 6), 63, [vI (labD l day off t), vI (labS l day off t), vI (labA l day off t)]), ((pb E8 6), 66, [vI (hi (n)), .int .u64 (lo (n))])]) (hs := c_ mv_ <| c_ (ld_ 4 (hrd := by exact rd63 rfl rfl rfl)) <| c_ (cw_ Try.func41 (h := fun _ env _ wd hA => ⟨_, (res_eq (tai_X (Facts.isR (hA.j.st.now).1 0 rfl) hL (labD l day off t) (labS l day off t) (labA l day off t) l0 l1) (tt_eq (congrArg vW hn) (congrArg vI q1))), rfl⟩)) <| c_ mv_ <| c_ ext_ <| c_ ext_ <| c_ (al_ 5) <| c_ (sw_ 5 6 (hst := by exact fun _ _ _ hc => st66 rfl rfl rfl hc)) <| c_ mv_ <| e_) (k := fun E8 ac wd h_8 => ?_)
  clear h_7
  refine then_n (wp_seq ?_)
  refine rf_ h_8 [[0],[0,1],[2],r_ 4,r_ 5,[5],r_ 7] [K_ (vW t), KE_ fun env => bigF t (env 1), K_ (vW n), KE_ fun env => bigF n (env 3), KE_ fun env => bigF (t - n) (env 4), KE_ fun env => vP (pb env 5) 0, none] (fun E9 => [(6, bF), (16, vI 0), (17, vP (pb E9 5) 0)]) (W := [{ i := 5, T := 70, c0 := [bF, .slice none 0 0], s := some 6, c1 := fun env => [.bool (decide (t - n < 0)), rS (t - n) ((bA (env 4))) ((bC (env 4)))] }]) (F := [(1, fun env w => BigN w0.heap.size w (env 1) t), (3, fun env w => BigN w0.heap.size w (env 3) n), (4, fun env w => BigN w0.heap.size w (env 4) (t - n))]) (L1 := fun E9 => [fun w => NewX none w (E2 6) l day off, fun w => BigN w0.heap.size w (E9 1) t, fun w => BigN w0.heap.size w (E9 3) n, fun w => BigN w0.heap.size w (E9 4) (t - n)]) (M' := fun E9 => [((pb E1 0), 60, [.slice A0 l.length c0, vI day, vI off]), ((pb E1 1), 63, [vI d, vI s, vI a]), ((pb E1 2), 66, [vI (hi (t)), .int .u64 (lo (t))]), ((pb E4 6), 66, [vI (hi (taiV l day off d s a)), .int .u64 (lo (taiV l day off d s a))]), ((pb E6 6), 63, [vI (labD l day off t), vI (labS l day off t), vI (labA l day off t)]), ((pb E8 6), 66, [vI (hi (n)), .int .u64 (lo (n))]), ((pb E9 5), 70, [.bool (decide (t - n < 0)), rS (t - n) ((bA (E9 4))) ((bC (E9 4)))])]) (hs := c_ (ld_ 2 (hrd := by exact rd66 rfl rfl)) <| c_ (cb_ Try.func44 t (h := fun _ env _ wd hA => ⟨_, Of_any wd t htw, rfl⟩)) <| c_ (ld_ 5 (hrd := by exact rd66 rfl rfl)) <| c_ (cb_ Try.func44 n (h := fun _ env _ wd hA => ⟨_, Of_any wd n (by unfold InW; omega), rfl⟩)) <| c_ (cb_ Try.func47 (t - n) (h := fun _ env _ wd hA => ⟨_, Sub_any wd (decide (t < 0)) (bA (env 1)) (bC (env 1)) t rfl (At.bigN hA 1 rfl rfl rfl) (by unfold Sm; omega) (decide (n < 0)) (bA (env 3)) (bC (env 3)) n rfl (At.bigN hA 3 rfl rfl rfl) (by unfold Sm; omega), rfl⟩)) <| c_ (al_ 6) <| c_ (sw_ 6 5 (hst := by exact fun _ _ _ hc => st70 rfl rfl rfl hc)) <| e_) (k := fun E9 ac wd h_9 => ?_)
  clear h_8
  refine then_n (wp_seq ?_)
  by_cases h0 : n = t
  refine rf_ h_9 [[0],[0,1],[0,1,2],r_ 4,r_ 5,r_ 6,r_ 7,[0,1,2,3,4,5,7],r_ 9,r_ 10,r_ 11,[0,1,2,3,4,5,6,7,8,9,11],r_ 13,r_ 14,r_ 15,r_ 16] [K_ bT, K_ bT, K_ (vI 0), K_ bT, K_ bT, K_ bT, K_ (bigF (t - n) (E9 4)), KE_ fun env => bigF 0 (env 7), K_ bT, K_ bT, K_ undef, K_ undef, K_ undef, K_ bT, K_ bT, K_ bT] (fun E10 => [(6, bT)]) (F := [(7, fun env w => BigN w0.heap.size w (env 7) 0)]) (L1 := fun E10 => [fun w => NewX none w (E2 6) l day off, fun w => BigN w0.heap.size w (E9 1) t, fun w => BigN w0.heap.size w (E9 3) n, fun w => BigN w0.heap.size w (E9 4) (t - n), fun w => BigN w0.heap.size w (E10 7) 0]) (hs := c_ (cl_ Try.func38 (h := fun env => ⟨_, answers14_any, rfl⟩)) <| c_ mv_ <| c_ (gm0 (vI 0)) <| c_ (bi0 (vI 0) (vI 0) (h := by intro env w; (first | (simp [go_sem]; done) | (simp [go_sem]; rfl)))) <| c_ (pk0 bT bT bF (h := by intro env w; (first | (simp [go_sem]; done) | (simp [go_sem]; rfl)))) <| c_ mv_ <| c_ (ld_ 6 (hrd := by exact rd70 rfl rfl)) <| c_ (cb_ Try.func48 0 (h := fun _ env _ wd hA => ⟨_, Int_any wd 0 (by omega) (by omega), rfl⟩)) <| c_ (cw_ Try.func43 (h := fun _ env _ wd hA => ⟨_, (res_eq (Same_any wd (decide (t - n < 0)) (bA (E9 4)) (bC (E9 4)) (t - n) rfl (Facts.bigN (hA.j.st.now).1 3 rfl)  (decide (0 < 0)) (bA (env 7)) (bC (env 7)) 0 rfl (At.bigN hA 7 rfl rfl rfl) ) (congrArg Value.bool (decide_eq_true (by omega)))), rfl⟩)) <| c_ (gm0 bT) <| c_ off_ <| c_ off_ <| c_ off_ <| c_ (pk0 bT bT undef) <| c_ (pk0 bT bT bF) <| c_ mv_ <| e_) (k := fun E10 ac wd h_10 => ?_)
  clear h_9
  refine then_n (wp_ret ?_)
  have s6 := h_10.g (t := 6) rfl
  refine leave (v := .bool true) h_10.df (by simp [results, Try.results14, go_sem, Array.getD_eq_getD_getElem?, s6]) ?_
  exact ⟨rfl, h_10.st.below⟩
  refine rf_ h_9 [[0],[0,1],[0,1,2],r_ 4,r_ 5,r_ 6,r_ 7,[0,1,2,3,4,5,7],r_ 9,r_ 10,r_ 11,[0,1,2,3,4,5,6,7,8,9,11],r_ 13,r_ 14,r_ 15,r_ 16] [K_ bT, K_ bT, K_ (vI 0), K_ bT, K_ bT, K_ bT, K_ (bigF (t - n) (E9 4)), KE_ fun env => bigF 0 (env 7), K_ bF, K_ bF, K_ (bigF (t - n) (E9 4)), KE_ fun env => bigF 1 (env 11), K_ bT, K_ bT, K_ bT, K_ bT] (fun E10 => [(6, bT)]) (F := [(7, fun env w => BigN w0.heap.size w (env 7) 0), (11, fun env w => BigN w0.heap.size w (env 11) 1)]) (L1 := fun E10 => [fun w => NewX none w (E2 6) l day off, fun w => BigN w0.heap.size w (E9 1) t, fun w => BigN w0.heap.size w (E9 3) n, fun w => BigN w0.heap.size w (E9 4) (t - n), fun w => BigN w0.heap.size w (E10 7) 0, fun w => BigN w0.heap.size w (E10 11) 1]) (hs := c_ (cl_ Try.func38 (h := fun env => ⟨_, answers14_any, rfl⟩)) <| c_ mv_ <| c_ (gm0 (vI 0)) <| c_ (bi0 (vI 0) (vI 0) (h := by intro env w; (first | (simp [go_sem]; done) | (simp [go_sem]; rfl)))) <| c_ (pk0 bT bT bF (h := by intro env w; (first | (simp [go_sem]; done) | (simp [go_sem]; rfl)))) <| c_ mv_ <| c_ (ld_ 6 (hrd := by exact rd70 rfl rfl)) <| c_ (cb_ Try.func48 0 (h := fun _ env _ wd hA => ⟨_, Int_any wd 0 (by omega) (by omega), rfl⟩)) <| c_ (cw_ Try.func43 (h := fun _ env _ wd hA => ⟨_, (res_eq (Same_any wd (decide (t - n < 0)) (bA (E9 4)) (bC (E9 4)) (t - n) rfl (Facts.bigN (hA.j.st.now).1 3 rfl)  (decide (0 < 0)) (bA (env 7)) (bC (env 7)) 0 rfl (At.bigN hA 7 rfl rfl rfl) ) (congrArg Value.bool (decide_eq_false (by omega)))), rfl⟩)) <| c_ (gm0 bF) <| c_ (ld_ 6 (hrd := by exact rd70 rfl rfl)) <| c_ (cb_ Try.func48 1 (h := fun _ env _ wd hA => ⟨_, Int_any wd 1 (by omega) (by omega), rfl⟩)) <| c_ (cw_ Try.func43 (h := fun _ env _ wd hA => ⟨_, (res_eq (Same_any wd (decide (t - n < 0)) (bA (E9 4)) (bC (E9 4)) (t - n) rfl (Facts.bigN (hA.j.st.now).1 3 rfl)  (decide (1 < 0)) (bA (env 11)) (bC (env 11)) 1 rfl (At.bigN hA 11 rfl rfl rfl) ) (congrArg Value.bool (decide_eq_true (by omega)))), rfl⟩)) <| c_ (pk0 bF bT bT) <| c_ (pk0 bT bT bF) <| c_ mv_ <| e_) (k := fun E10 ac wd h_10 => ?_)
  clear h_9
  refine then_n (wp_ret ?_)
  have s6 := h_10.g (t := 6) rfl
  refine leave (v := .bool true) h_10.df (by simp [results, Try.results14, go_sem, Array.getD_eq_getD_getElem?, s6]) ?_
  exact ⟨rfl, h_10.st.below⟩
  refine rf_ h_6 [[0],[0,1]] [K_ (vI (labE l day off t)), K_ bT] (fun E7 => [(5, vP (pb E1 2) 0), (6, bF), (7, vP (ptrB (tp (E2 6) 0)) 0), (13, vP (pb E6 6) 0), (59, bT)]) (hs := c_ mv_ <| c_ (bi0 (vI (labE l day off t)) (vI 0) (h := by intro env w; simp [go_sem, hf])) <| e_) (k := fun E7 ac wd h_7 => ?_)
  clear h_6
  refine then_n ?_
  refine wp_cond_true (eval_tmp (h_7.g (t := 59) rfl)) ?_
  refine wp_seq ?_
  refine rf_ h_7 [[0],[0,1]] [K_ bT, K_ bT] (fun E8 => [(5, vP (pb E1 2) 0), (6, bT), (7, vP (ptrB (tp (E2 6) 0)) 0), (13, vP (pb E6 6) 0)]) (hs := c_ (cl_ Try.func38 (h := fun env => ⟨_, answers14_any, rfl⟩)) <| c_ mv_ <| e_) (k := fun E8 ac wd h_8 => ?_)
  clear h_7
  refine then_n (wp_ret (then_ret ?_))
  have s6 := h_8.g (t := 6) rfl
  refine leave (v := .bool true) h_8.df (by simp [results, Try.results14, go_sem, Array.getD_eq_getD_getElem?, s6]) ?_
  exact ⟨rfl, h_8.st.below⟩
end Go.Proofs.Ytdbhgeihphjgeaa

/- the law RubberRises (printed by my walk.py) -/
namespace Go.Proofs.Ytdbhgeihphjgeaa
open Go.RowKit
set_option linter.unusedVariables false
set_option linter.unusedSimpArgs false
attribute [local go_sem] vN bT bF rS vSg vW vM vL vT2 vT3 vP vI execOp Act.eval evC bigF vB hi_zero lo_zero Try.underlying60 Try.underlying63 Try.underlying66
set_option maxRecDepth 100000 in
set_option maxHeartbeats 8000000 in
theorem before_any (d s a d2 s2 a2 : Int) : Ret 49 #[vL d s a, vL d2 s2 a2] (.bool (befL d s a d2 s2 a2)) := by
  intro w0
  have hst := St.start w0 (Θ := fun _ => True) (fun _ _ => trivial)
  refine enter Try.func49 rfl (n := 30) rfl (Nat.le_of_ble_eq_true rfl) hst (L := [(0, vL d s a), (1, vL d2 s2 a2)]) (lk_args rfl) (fun ac h => ?_)
  refine wp_seq ?_
  refine rg_ h [[0],[1],[2]] [KE_ fun env => vP (pb env 0) 0, KE_ fun env => vP (pb env 1) 0, K_ bF] (fun E1 => [(2, vP (pb E1 0) 0), (3, vP (pb E1 1) 0), (4, bF)]) (W := [{ i := 0, T := 63, c0 := [vI d, vI s, vI a] }, { i := 1, T := 63, c0 := [vI d2, vI s2, vI a2] }]) (M' := fun E1 => [((pb E1 0), 63, [vI d, vI s, vI a]), ((pb E1 1), 63, [vI d2, vI s2, vI a2])]) (hs := c_ (bx0 0 (vL d s a)) <| c_ (bx0 1 (vL d2 s2 a2)) <| c_ mv_ <| e_) (k := fun E1 ac wd h_1 => ?_)
  clear h
  refine then_n (wp_seq (wp_seq ?_))
  by_cases h1 : d = d2
  refine rg_ h_1 [[0],[0,1],[2],[2,3],r_ 5] [K_ (vP (pb E1 0) 0), K_ (vI d), K_ (vP (pb E1 1) 0), K_ (vI d2), K_ bF] (fun E2 => [(2, vP (pb E1 0) 0), (3, vP (pb E1 1) 0), (4, bF), (9, bF)]) (hs := c_ (fa0 (vP (pb E1 0) 0)) <| c_ (ld_ 0 (hrd := by exact rd3 rfl)) <| c_ (fa0 (vP (pb E1 1) 0)) <| c_ (ld_ 1 (hrd := by exact rd3 rfl)) <| c_ (bi0 (vI d) (vI d2) (h := by intro env w; simp [go_sem, h1])) <| e_) (k := fun E2 ac wd h_2 => ?_)
  clear h_1
  refine then_n ?_
  refine wp_cond_false (eval_tmp (h_2.g (t := 9) rfl)) ?_
  refine wp_skip (then_n (wp_seq (wp_seq ?_)))
  by_cases h2 : s = s2
  refine rg_ h_2 [[0],[0,1],[2],[2,3],r_ 5] [K_ (vP (pb E1 0) 1), K_ (vI s), K_ (vP (pb E1 1) 1), K_ (vI s2), K_ bF] (fun E3 => [(2, vP (pb E1 0) 0), (3, vP (pb E1 1) 0), (4, bF), (19, bF)]) (hs := c_ (fa0 (vP (pb E1 0) 0)) <| c_ (ld_ 0 (hrd := by exact rd3 rfl)) <| c_ (fa0 (vP (pb E1 1) 0)) <| c_ (ld_ 1 (hrd := by exact rd3 rfl)) <| c_ (bi0 (vI s) (vI s2) (h := by intro env w; simp [go_sem, h2])) <| e_) (k := fun E3 ac wd h_3 => ?_)
  clear h_2
  refine then_n ?_
  refine wp_cond_false (eval_tmp (h_3.g (t := 19) rfl)) ?_
  refine wp_skip (then_n (wp_seq ?_))
  refine rg_ h_3 [[0],[0,1],[2],[2,3],r_ 5,r_ 6] [K_ (vP (pb E1 0) 2), K_ (vI a), K_ (vP (pb E1 1) 2), K_ (vI a2), K_ (.bool (decide (a < a2))), K_ (.bool (decide (a < a2)))] (fun E4 => [(4, .bool (decide (a < a2)))]) (hs := c_ (fa0 (vP (pb E1 0) 0)) <| c_ (ld_ 0 (hrd := by exact rd3 rfl)) <| c_ (fa0 (vP (pb E1 1) 0)) <| c_ (ld_ 1 (hrd := by exact rd3 rfl)) <| c_ (bi0 (vI a) (vI a2)) <| c_ mv_ <| e_) (k := fun E4 ac wd h_4 => ?_)
  clear h_3
  refine then_n (wp_ret ?_)
  have s4 := h_4.g (t := 4) rfl
  refine leave (v := .bool (decide (a < a2))) h_4.df (by simp [results, Try.results49, go_sem, Array.getD_eq_getD_getElem?, s4]) ?_
  exact ⟨by unfold befL; rw [if_pos h1, if_pos h2], h_4.st.below⟩
  refine rg_ h_2 [[0],[0,1],[2],[2,3],r_ 5] [K_ (vP (pb E1 0) 1), K_ (vI s), K_ (vP (pb E1 1) 1), K_ (vI s2), K_ bT] (fun E3 => [(2, vP (pb E1 0) 0), (3, vP (pb E1 1) 0), (4, bF), (19, bT)]) (hs := c_ (fa0 (vP (pb E1 0) 0)) <| c_ (ld_ 0 (hrd := by exact rd3 rfl)) <| c_ (fa0 (vP (pb E1 1) 0)) <| c_ (ld_ 1 (hrd := by exact rd3 rfl)) <| c_ (bi0 (vI s) (vI s2) (h := by intro env w; simp [go_sem, h2])) <| e_) (k := fun E3 ac wd h_3 => ?_)
  clear h_2
  refine then_n ?_
  refine wp_cond_true (eval_tmp (h_3.g (t := 19) rfl)) ?_
  refine wp_seq ?_
  refine rg_ h_3 [[0],[0,1],[2],[2,3],r_ 5,r_ 6] [K_ (vP (pb E1 0) 1), K_ (vI s), K_ (vP (pb E1 1) 1), K_ (vI s2), K_ (.bool (decide (s < s2))), K_ (.bool (decide (s < s2)))] (fun E4 => [(2, vP (pb E1 0) 0), (3, vP (pb E1 1) 0), (4, .bool (decide (s < s2)))]) (hs := c_ (fa0 (vP (pb E1 0) 0)) <| c_ (ld_ 0 (hrd := by exact rd3 rfl)) <| c_ (fa0 (vP (pb E1 1) 0)) <| c_ (ld_ 1 (hrd := by exact rd3 rfl)) <| c_ (bi0 (vI s) (vI s2)) <| c_ mv_ <| e_) (k := fun E4 ac wd h_4 => ?_)
  clear h_3
  refine then_n (wp_ret (then_ret ?_))
  have s4 := h_4.g (t := 4) rfl
  refine leave (v := .bool (decide (s < s2))) h_4.df (by simp [results, Try.results49, go_sem, Array.getD_eq_getD_getElem?, s4]) ?_
  exact ⟨by unfold befL; rw [if_pos h1, if_neg h2], h_4.st.below⟩
  refine rg_ h_1 [[0],[0,1],[2],[2,3],r_ 5] [K_ (vP (pb E1 0) 0), K_ (vI d), K_ (vP (pb E1 1) 0), K_ (vI d2), K_ bT] (fun E2 => [(2, vP (pb E1 0) 0), (3, vP (pb E1 1) 0), (4, bF), (9, bT)]) (hs := c_ (fa0 (vP (pb E1 0) 0)) <| c_ (ld_ 0 (hrd := by exact rd3 rfl)) <| c_ (fa0 (vP (pb E1 1) 0)) <| c_ (ld_ 1 (hrd := by exact rd3 rfl)) <| c_ (bi0 (vI d) (vI d2) (h := by intro env w; simp [go_sem, h1])) <| e_) (k := fun E2 ac wd h_2 => ?_)
  clear h_1
  refine then_n ?_
  refine wp_cond_true (eval_tmp (h_2.g (t := 9) rfl)) ?_
  refine wp_seq ?_
  refine rg_ h_2 [[0],[0,1],[2],[2,3],r_ 5,r_ 6] [K_ (vP (pb E1 0) 0), K_ (vI d), K_ (vP (pb E1 1) 0), K_ (vI d2), K_ (.bool (decide (d < d2))), K_ (.bool (decide (d < d2)))] (fun E3 => [(2, vP (pb E1 0) 0), (3, vP (pb E1 1) 0), (4, .bool (decide (d < d2)))]) (hs := c_ (fa0 (vP (pb E1 0) 0)) <| c_ (ld_ 0 (hrd := by exact rd3 rfl)) <| c_ (fa0 (vP (pb E1 1) 0)) <| c_ (ld_ 1 (hrd := by exact rd3 rfl)) <| c_ (bi0 (vI d) (vI d2)) <| c_ mv_ <| e_) (k := fun E3 ac wd h_3 => ?_)
  clear h_2
  refine then_n (wp_ret (then_ret ?_))
  have s4 := h_3.g (t := 4) rfl
  refine leave (v := .bool (decide (d < d2))) h_3.df (by simp [results, Try.results49, go_sem, Array.getD_eq_getD_getElem?, s4]) ?_
  exact ⟨by unfold befL; rw [if_neg h1], h_3.st.below⟩
set_option maxRecDepth 100000 in
set_option maxHeartbeats 8000000 in
theorem rubberRises_walk (w0 : World) (A0 : Option Addr) (c0 : Nat) (l : List Sg) (hl : SegU w0 (.slice A0 l.length c0) l) (day off : Int) (hd0 : -9223372036854775808 ≤ day) (hd1 : day < 9223372036854775808) (d s a : Int) (hx0 : -9223372036854775808 ≤ d) (hx1 : d < 9223372036854775808) (hx2 : -9223372036854775808 ≤ s) (hx3 : s < 9223372036854775808) (hx4 : -9223372036854775808 ≤ a) (hx5 : a < 9223372036854775808) (d2 s2 a2 : Int) (hy0 : -9223372036854775808 ≤ d2) (hy1 : d2 < 9223372036854775808) (hy2 : -9223372036854775808 ≤ s2) (hy3 : s2 < 9223372036854775808) (hy4 : -9223372036854775808 ≤ a2) (hy5 : a2 < 9223372036854775808) : Calls Try.prog 15 #[.agg #[.slice A0 l.length c0, vI day, vI off], vL d s a, vL d2 s2 a2] w0 fun e w' => e = .returned (.bool true) ∧ Below w0.heap.size w0 w' := by
  have hle := RowU_le hl
  have hst := St.start w0 (Θ := fun _ => True) (fun _ _ => trivial)
  refine enter Try.func15 rfl (n := 60) rfl (Nat.le_of_ble_eq_true rfl) hst (L := [(0, .agg #[.slice A0 l.length c0, vI day, vI off]), (1, vL d s a), (2, vL d2 s2 a2)]) (lk_args rfl) (fun ac h => ?_)
  replace h := h.facts
  refine wp_seq ?_
  refine rf_ h [[0],[1],[2],[3]] [KE_ fun env => vP (pb env 0) 0, KE_ fun env => vP (pb env 1) 0, KE_ fun env => vP (pb env 2) 0, K_ bF] (fun E1 => [(3, vP (pb E1 0) 0), (4, vP (pb E1 1) 0), (5, vP (pb E1 2) 0), (6, bF)]) (W := [{ i := 0, T := 60, c0 := [.slice A0 l.length c0, vI day, vI off] }, { i := 1, T := 63, c0 := [vI d, vI s, vI a] }, { i := 2, T := 63, c0 := [vI d2, vI s2, vI a2] }]) (M' := fun E1 => [((pb E1 0), 60, [.slice A0 l.length c0, vI day, vI off]), ((pb E1 1), 63, [vI d, vI s, vI a]), ((pb E1 2), 63, [vI d2, vI s2, vI a2])]) (hs := c_ (bx0 0 (.agg #[.slice A0 l.length c0, vI day, vI off])) <| c_ (bx0 1 (vL d s a)) <| c_ (bx0 2 (vL d2 s2 a2)) <| c_ mv_ <| e_) (k := fun E1 ac wd h_1 => ?_)
  clear h
  refine then_n (wp_seq ?_)
  cases hm : mayS l day off
  refine rf_ h_1 [[0],[0,1],[2],[2,3],[4],[4,5],r_ 7,r_ 8,r_ 9,[0,1,2,3,4,5,6,7,9],[0,1,2,3,4,5,6,7,8,10],r_ 12] [K_ (vP (pb E1 0) 0), K_ (.slice A0 l.length c0), K_ (vP (pb E1 0) 1), K_ (vI day), K_ (vP (pb E1 0) 2), K_ (vI off), K_ (vT2 (.pointer none) (vI 10)), K_ (vT2 (.pointer none) (vI 10)), K_ (.pointer none), K_ (vI 10), K_ (.pointer none), K_ (vI 10)] (fun E2 => [(4, vP (pb E1 1) 0), (5, vP (pb E1 2) 0), (6, bF), (7, .pointer none), (8, vI 10)]) (hs := c_ (fa0 (vP (pb E1 0) 0)) <| c_ (ld_ 0 (hrd := by exact rd50 rfl)) <| c_ (fa0 (vP (pb E1 0) 0)) <| c_ (ld_ 0 (hrd := by exact rd3 rfl)) <| c_ (fa0 (vP (pb E1 0) 0)) <| c_ (ld_ 0 (hrd := by exact rd3 rfl)) <| c_ (cw_ Try.func37 (h := fun _ env _ wd hA => ⟨_, rNew_no wd A0 c0 l (hl.grown hA.j.st.gr) day off hd0 hd1 hm, rfl⟩)) <| c_ mv_ <| c_ ext_ <| c_ ext_ <| c_ mv_ <| c_ mv_ <| e_) (k := fun E2 ac wd h_2 => ?_)
  clear h_1
  refine then_n (wp_seq (wp_seq ?_))
  refine rf_ h_2 [[0],[0,1],[0,1,2],r_ 4,[0,1,2,4],r_ 6,r_ 7,r_ 8] [K_ (vI 10), K_ bT, K_ bT, K_ undef, K_ undef, K_ undef, K_ undef, K_ bT] (fun E3 => [(4, vP (pb E1 1) 0), (5, vP (pb E1 2) 0), (6, bF), (7, .pointer none), (30, bT)]) (hs := c_ mv_ <| c_ (bi0 (vI 10) (vI 0)) <| c_ mv_ <| c_ off_ <| c_ off_ <| c_ off_ <| c_ off_ <| c_ (pk0 bT bT undef) <| e_) (k := fun E3 ac wd h_3 => ?_)
  clear h_2
  refine then_n ?_
  refine wp_cond_true (eval_tmp (h_3.g (t := 30) rfl)) ?_
  refine wp_seq ?_
  refine rf_ h_3 [[0],[0,1]] [K_ bT, K_ bT] (fun E4 => [(4, vP (pb E1 1) 0), (5, vP (pb E1 2) 0), (6, bT), (7, .pointer none)]) (hs := c_ (cl_ Try.func38 (h := fun env => ⟨_, answers14_any, rfl⟩)) <| c_ mv_ <| e_) (k := fun E4 ac wd h_4 => ?_)
  clear h_3
  refine then_n (wp_ret (then_ret ?_))
  have s6 := h_4.g (t := 6) rfl
  refine leave (v := .bool true) h_4.df (by simp [results, Try.results15, go_sem, Array.getD_eq_getD_getElem?, s6]) ?_
  exact ⟨rfl, h_4.st.below⟩
  have hM := mayS_ok hm; have hL := hM.toLOk; have n0 := hL.n0
  refine rf_ h_1 [[0],[0,1],[2],[2,3],[4],[4,5],r_ 7,r_ 8,r_ 9,[0,1,2,3,4,5,6,7,9],[0,1,2,3,4,5,6,7,8,10],r_ 12] [K_ (vP (pb E1 0) 0), K_ (.slice A0 l.length c0), K_ (vP (pb E1 0) 1), K_ (vI day), K_ (vP (pb E1 0) 2), K_ (vI off), KE_ fun env => vT2 (vP (ptrB (tp (env 6) 0)) 0) (vI 0), KE_ fun env => vT2 (vP (ptrB (tp (env 6) 0)) 0) (vI 0), KE_ fun env => vP (ptrB (tp (env 6) 0)) 0, K_ (vI 0), KE_ fun env => vP (ptrB (tp (env 6) 0)) 0, K_ (vI 0)] (fun E2 => [(4, vP (pb E1 1) 0), (5, vP (pb E1 2) 0), (6, bF), (7, vP (ptrB (tp (E2 6) 0)) 0), (8, vI 0)]) (F := [(6, fun env w => NewX none w (env 6) l day off)]) (L1 := fun E2 => [fun w => NewX none w (E2 6) l day off]) (hs := c_ (fa0 (vP (pb E1 0) 0)) <| c_ (ld_ 0 (hrd := by exact rd50 rfl)) <| c_ (fa0 (vP (pb E1 0) 0)) <| c_ (ld_ 0 (hrd := by exact rd3 rfl)) <| c_ (fa0 (vP (pb E1 0) 0)) <| c_ (ld_ 0 (hrd := by exact rd3 rfl)) <| c_ (s_factT rfl rfl rfl Try.func37 (by kernel_rfl) rfl (fun _ => wanted_none rfl _) (fun v w => NewX none w v l day off) newF rfl rfl [122, 124] rfl (fun v w h => h.form) (fun v w w' hk h => h.keep hk) (fun {D env ac wd} hA => ⟨_, hA.args (vs := [.slice A0 l.length c0, vI day, vI off]) rfl, rNew_yes wd A0 c0 l (hl.grown hA.j.st.gr) day off hd0 hd1 hm (fun k h => by cases h)⟩)) <| c_ mv_ <| c_ ext_ <| c_ ext_ <| c_ mv_ <| c_ mv_ <| e_) (k := fun E2 ac wd h_2 => ?_)
  clear h_1
  refine then_n (wp_seq (wp_seq ?_))
  cases hbf : befL d s a d2 s2 a2
  refine rf_ h_2 [[0],[0,1],[0,1,2],r_ 4,[0,1,2,4],r_ 6,r_ 7,r_ 8] [K_ (vI 0), K_ bF, K_ bF, K_ (vL d s a), K_ (vL d2 s2 a2), K_ bF, K_ bT, K_ bT] (fun E3 => [(4, vP (pb E1 1) 0), (5, vP (pb E1 2) 0), (6, bF), (7, vP (ptrB (tp (E2 6) 0)) 0), (30, bT)]) (hs := c_ mv_ <| c_ (bi0 (vI 0) (vI 0) (h := by intro env w; (first | (simp [go_sem]; done) | (simp [go_sem]; rfl)))) <| c_ mv_ <| c_ (ld_ 1 (hrd := by exact rd63 rfl rfl rfl)) <| c_ (ld_ 2 (hrd := by exact rd63 rfl rfl rfl)) <| c_ (cl_ Try.func49 (h := fun env => ⟨_, ((before_any d s a d2 s2 a2).eq (congrArg Value.bool hbf)), rfl⟩)) <| c_ (un0 bF) <| c_ (pk0 bF bT bT) <| e_) (k := fun E3 ac wd h_3 => ?_)
  clear h_2
  refine then_n ?_
  refine wp_cond_true (eval_tmp (h_3.g (t := 30) rfl)) ?_
  refine wp_seq ?_
  refine rf_ h_3 [[0],[0,1]] [K_ bT, K_ bT] (fun E4 => [(4, vP (pb E1 1) 0), (5, vP (pb E1 2) 0), (6, bT), (7, vP (ptrB (tp (E2 6) 0)) 0)]) (hs := c_ (cl_ Try.func38 (h := fun env => ⟨_, answers14_any, rfl⟩)) <| c_ mv_ <| e_) (k := fun E4 ac wd h_4 => ?_)
  clear h_3
  refine then_n (wp_ret (then_ret ?_))
  have s6 := h_4.g (t := 6) rfl
  refine leave (v := .bool true) h_4.df (by simp [results, Try.results15, go_sem, Array.getD_eq_getD_getElem?, s6]) ?_
  exact ⟨rfl, h_4.st.below⟩
  refine rf_ h_2 [[0],[0,1],[0,1,2],r_ 4,[0,1,2,4],r_ 6,r_ 7,r_ 8] [K_ (vI 0), K_ bF, K_ bF, K_ (vL d s a), K_ (vL d2 s2 a2), K_ bT, K_ bF, K_ bF] (fun E3 => [(4, vP (pb E1 1) 0), (5, vP (pb E1 2) 0), (6, bF), (7, vP (ptrB (tp (E2 6) 0)) 0), (30, bF)]) (hs := c_ mv_ <| c_ (bi0 (vI 0) (vI 0) (h := by intro env w; (first | (simp [go_sem]; done) | (simp [go_sem]; rfl)))) <| c_ mv_ <| c_ (ld_ 1 (hrd := by exact rd63 rfl rfl rfl)) <| c_ (ld_ 2 (hrd := by exact rd63 rfl rfl rfl)) <| c_ (cl_ Try.func49 (h := fun env => ⟨_, ((before_any d s a d2 s2 a2).eq (congrArg Value.bool hbf)), rfl⟩)) <| c_ (un0 bT) <| c_ (pk0 bF bT bF) <| e_) (k := fun E3 ac wd h_3 => ?_)
  clear h_2
  refine then_n ?_
  refine wp_cond_false (eval_tmp (h_3.g (t := 30) rfl)) ?_
  refine wp_skip (then_n (wp_seq ?_))
  refine rf_ h_3 [[0],[1],[0,1,2],r_ 4,r_ 5,[0,1,2,3,5],[6],[0,1,2,3,4,6,7],r_ 9] [K_ (vP (ptrB (tp (E2 6) 0)) 0), K_ (vL d s a), K_ (vT2 (vW (taiV l day off d s a)) (vI (taiE l day off d s a))), K_ (vT2 (vW (taiV l day off d s a)) (vI (taiE l day off d s a))), K_ (vW (taiV l day off d s a)), K_ (vI (taiE l day off d s a)), KE_ fun env => vP (pb env 6) 0, none, K_ (vI (taiE l day off d s a))] (fun E4 => [(5, vP (pb E1 2) 0), (6, bF), (7, vP (ptrB (tp (E2 6) 0)) 0), (9, vP (pb E4 6) 0), (10, vI (taiE l day off d s a))]) (W := [{ i := 6, T := 66, c0 := [vI 0, .int .u64 0], s := some 7, c1 := fun _ => [vI (hi (taiV l day off d s a)), .int .u64 (lo (taiV l day off d s a))] }]) (M' := fun E4 => [((pb E1 0), 60, [.slice A0 l.length c0, vI day, vI off]), ((pb E1 1), 63, [vI d, vI s, vI a]), ((pb E1 2), 63, [vI d2, vI s2, vI a2]), ((pb E4 6), 66, [vI (hi (taiV l day off d s a)), .int .u64 (lo (taiV l day off d s a))])]) (hs := c_ mv_ <| c_ (ld_ 1 (hrd := by exact rd63 rfl rfl rfl)) <| c_ (cw_ Try.func41 (h := fun _ env _ wd hA => ⟨_, tai_X (Facts.isR (hA.j.st.now).1 0 rfl) hL d s a hx0 hx1, rfl⟩)) <| c_ mv_ <| c_ ext_ <| c_ ext_ <| c_ (al_ 3) <| c_ (sw_ 3 6 (hst := by exact fun _ _ _ hc => st66 rfl rfl rfl hc)) <| c_ mv_ <| e_) (k := fun E4 ac wd h_4 => ?_)
  clear h_3
  refine then_n (wp_seq ?_)
  refine rf_ h_4 [[0],[1],[0,1,2],r_ 4,r_ 5,[0,1,2,3,5],[6],[0,1,2,3,4,6,7],r_ 9] [K_ (vP (ptrB (tp (E2 6) 0)) 0), K_ (vL d2 s2 a2), K_ (vT2 (vW (taiV l day off d2 s2 a2)) (vI (taiE l day off d2 s2 a2))), K_ (vT2 (vW (taiV l day off d2 s2 a2)) (vI (taiE l day off d2 s2 a2))), K_ (vW (taiV l day off d2 s2 a2)), K_ (vI (taiE l day off d2 s2 a2)), KE_ fun env => vP (pb env 6) 0, none, K_ (vI (taiE l day off d2 s2 a2))] (fun E5 => [(6, bF), (9, vP (pb E4 6) 0), (10, vI (taiE l day off d s a)), (11, vP (pb E5 6) 0), (12, vI (taiE l day off d2 s2 a2))]) (W := [{ i := 6, T := 66, c0 := [vI 0, .int .u64 0], s := some 7, c1 := fun _ => [vI (hi (taiV l day off d2 s2 a2)), .int .u64 (lo (taiV l day off d2 s2 a2))] }]) (M' := fun E5 => [((pb E1 0), 60, [.slice A0 l.length c0, vI day, vI off]), ((pb E1 1), 63, [vI d, vI s, vI a]), ((pb E1 2), 63, [vI d2, vI s2, vI a2]), ((pb E4 6), 66, [vI (hi (taiV l day off d s a)), .int .u64 (lo (taiV l day off d s a))]), ((pb E5 6), 66, [vI (hi (taiV l day off d2 s2 a2)), .int .u64 (lo (taiV l day off d2 s2 a2))])]) (hs := c_ mv_ <| c_ (ld_ 2 (hrd := by exact rd63 rfl rfl rfl)) <| c_ (cw_ Try.func41 (h := fun _ env _ wd hA => ⟨_, tai_X (Facts.isR (hA.j.st.now).1 0 rfl) hL d2 s2 a2 hy0 hy1, rfl⟩)) <| c_ mv_ <| c_ ext_ <| c_ ext_ <| c_ (al_ 4) <| c_ (sw_ 4 6 (hst := by exact fun _ _ _ hc => st66 rfl rfl rfl hc)) <| c_ mv_ <| e_) (k := fun E5 ac wd h_5 => ?_)
  clear h_4
  refine then_n (wp_seq (wp_seq ?_))
  by_cases he : taiE l day off d s a = 0
  by_cases hf : taiE l day off d2 s2 a2 = 0
  have hri := tai_rises hM hbf he hf
  refine rf_ h_5 (tri 6) [K_ (vI (taiE l day off d s a)), K_ bF, K_ bF, K_ (vI (taiE l day off d2 s2 a2)), K_ bF, K_ bF] (fun E6 => [(6, bF), (9, vP (pb E4 6) 0), (11, vP (pb E5 6) 0), (49, bF)]) (hs := c_ mv_ <| c_ (bi0 (vI (taiE l day off d s a)) (vI 0) (h := by intro env w; simp [go_sem, he])) <| c_ mv_ <| c_ (gm0 (vI (taiE l day off d2 s2 a2))) <| c_ (bi0 (vI (taiE l day off d2 s2 a2)) (vI 0) (h := by intro env w; simp [go_sem, hf])) <| c_ (pk0 bF bT bF (h := by intro env w; simp [go_sem, hf])) <| e_) (k := fun E6 ac wd h_6 => ?_)
  clear h_5
  refine then_n ?_
  refine wp_cond_false (eval_tmp (h_6.g (t := 49) rfl)) ?_
  refine wp_skip (then_n (wp_seq ?_))
  refine rf_ h_6 [[0],[0,1],[0,1,2],r_ 4,[0,1,4],r_ 6,r_ 7,r_ 8,r_ 9,r_ 10] [K_ bT, K_ bT, K_ (vW (taiV l day off d s a)), KE_ fun env => bigF (taiV l day off d s a) (env 3), K_ (vW (taiV l day off d2 s2 a2)), KE_ fun env => bigF (taiV l day off d2 s2 a2) (env 5), K_ (vI (cmpZ (taiV l day off d s a) (taiV l day off d2 s2 a2))), K_ bT, K_ bT, K_ bT] (fun E7 => [(6, bT)]) (F := [(3, fun env w => BigN w0.heap.size w (env 3) (taiV l day off d s a)), (5, fun env w => BigN w0.heap.size w (env 5) (taiV l day off d2 s2 a2))]) (L1 := fun E7 => [fun w => NewX none w (E2 6) l day off, fun w => BigN w0.heap.size w (E7 3) (taiV l day off d s a), fun w => BigN w0.heap.size w (E7 5) (taiV l day off d2 s2 a2)]) (hs := c_ (cl_ Try.func38 (h := fun env => ⟨_, answers14_any, rfl⟩)) <| c_ mv_ <| c_ (ld_ 3 (hrd := by exact rd66 rfl rfl)) <| c_ (cb_ Try.func44 (taiV l day off d s a) (h := fun _ env _ wd hA => ⟨_, Of_any wd (taiV l day off d s a) (taiV_in hM d s a), rfl⟩)) <| c_ (ld_ 4 (hrd := by exact rd66 rfl rfl)) <| c_ (cb_ Try.func44 (taiV l day off d2 s2 a2) (h := fun _ env _ wd hA => ⟨_, Of_any wd (taiV l day off d2 s2 a2) (taiV_in hM d2 s2 a2), rfl⟩)) <| c_ (cw_ Try.func50 (h := fun _ env _ wd hA => ⟨_, Cmp_any wd (decide (taiV l day off d s a < 0)) (bA (env 3)) (bC (env 3)) (taiV l day off d s a) rfl (At.bigN hA 3 rfl rfl rfl)  (decide (taiV l day off d2 s2 a2 < 0)) (bA (env 5)) (bC (env 5)) (taiV l day off d2 s2 a2) rfl (At.bigN hA 5 rfl rfl rfl) , rfl⟩)) <| c_ (bi0 (vI (cmpZ (taiV l day off d s a) (taiV l day off d2 s2 a2))) (vI 0) (h := by intro env w; simp [go_sem, cmpZ_lt, hri])) <| c_ (pk0 bT bT bF (h := by intro env w; simp [go_sem, cmpZ_lt, hri])) <| c_ mv_ <| e_) (k := fun E7 ac wd h_7 => ?_)
  clear h_6
  refine then_n (wp_ret ?_)
  have s6 := h_7.g (t := 6) rfl
  refine leave (v := .bool true) h_7.df (by simp [results, Try.results15, go_sem, Array.getD_eq_getD_getElem?, s6]) ?_
  exact ⟨rfl, h_7.st.below⟩
  refine rf_ h_5 (tri 6) [K_ (vI (taiE l day off d s a)), K_ bF, K_ bF, K_ (vI (taiE l day off d2 s2 a2)), K_ bT, K_ bT] (fun E6 => [(6, bF), (9, vP (pb E4 6) 0), (11, vP (pb E5 6) 0), (49, bT)]) (hs := c_ mv_ <| c_ (bi0 (vI (taiE l day off d s a)) (vI 0) (h := by intro env w; simp [go_sem, he])) <| c_ mv_ <| c_ (gm0 (vI (taiE l day off d2 s2 a2))) <| c_ (bi0 (vI (taiE l day off d2 s2 a2)) (vI 0) (h := by intro env w; simp [go_sem, hf])) <| c_ (pk0 bF bT bT (h := by intro env w; simp [go_sem, hf])) <| e_) (k := fun E6 ac wd h_6 => ?_)
  clear h_5
  refine then_n ?_
  refine wp_cond_true (eval_tmp (h_6.g (t := 49) rfl)) ?_
  refine wp_seq ?_
  refine rf_ h_6 [[0],[0,1]] [K_ bT, K_ bT] (fun E7 => [(6, bT), (9, vP (pb E4 6) 0), (11, vP (pb E5 6) 0)]) (hs := c_ (cl_ Try.func38 (h := fun env => ⟨_, answers14_any, rfl⟩)) <| c_ mv_ <| e_) (k := fun E7 ac wd h_7 => ?_)
  clear h_6
  refine then_n (wp_ret (then_ret ?_))
  have s6 := h_7.g (t := 6) rfl
  refine leave (v := .bool true) h_7.df (by simp [results, Try.results15, go_sem, Array.getD_eq_getD_getElem?, s6]) ?_
  exact ⟨rfl, h_7.st.below⟩
  refine rf_ h_5 (tri 6) [K_ (vI (taiE l day off d s a)), K_ bT, K_ bT, K_ undef, K_ undef, K_ bT] (fun E6 => [(6, bF), (9, vP (pb E4 6) 0), (11, vP (pb E5 6) 0), (49, bT)]) (hs := c_ mv_ <| c_ (bi0 (vI (taiE l day off d s a)) (vI 0) (h := by intro env w; simp [go_sem, he])) <| c_ mv_ <| c_ off_ <| c_ off_ <| c_ (pk0 bT bT undef) <| e_) (k := fun E6 ac wd h_6 => ?_)
  clear h_5
  refine then_n ?_
  refine wp_cond_true (eval_tmp (h_6.g (t := 49) rfl)) ?_
  refine wp_seq ?_
  refine rf_ h_6 [[0],[0,1]] [K_ bT, K_ bT] (fun E7 => [(6, bT), (9, vP (pb E4 6) 0), (11, vP (pb E5 6) 0)]) (hs := c_ (cl_ Try.func38 (h := fun env => ⟨_, answers14_any, rfl⟩)) <| c_ mv_ <| e_) (k := fun E7 ac wd h_7 => ?_)
  clear h_6
  refine then_n (wp_ret (then_ret ?_))
  have s6 := h_7.g (t := 6) rfl
  refine leave (v := .bool true) h_7.df (by simp [results, Try.results15, go_sem, Array.getD_eq_getD_getElem?, s6]) ?_
  exact ⟨rfl, h_7.st.below⟩
end Go.Proofs.Ytdbhgeihphjgeaa


/- The arguments of a law opened: rates (a list of segments, two numbers), a label, a wide number. Own work. -/
import Derived.Test.YtdbhgeihphjgeaaR1
import Derived.Test.YtdbhgeihphjgeaaQ1
namespace Go.Proofs.Ytdbhgeihphjgeaa
open Go.RowKit Go.ChangeShapes Go.WideShapes Go.ChangeAt Go.Deep Go.Joins
set_option linter.unusedVariables false
set_option linter.unusedSimpArgs false
theorem ratesCells : Try.prog.cellsOf 60 = 3 := by kernel_rfl
theorem segCells : Try.prog.cellsOf 53 = 4 := by kernel_rfl
theorem labelCells : Try.prog.cellsOf 63 = 3 := by kernel_rfl
theorem wideCells : Try.prog.cellsOf 66 = 2 := by kernel_rfl
theorem cell_blk {w : World} {b o : Nat} {v : Value} (h : w.cell? ⟨b, o, none⟩ = some v) : ∃ (cur : Array Value) (T : TypeId) (fz : Nat × Nat), w.heap[b]? = some (.cells cur T fz) ∧ cur[o]? = some v := by
  unfold World.cell? at h
  simp only at h
  split at h
  · rename_i c T fz hb
    exact ⟨c, T, fz, hb, by simpa using h⟩
  · cases h
section
variable {H : Type} {enc : TypeId × Value → H} {w : World}
set_option maxRecDepth 100000 in
theorem open_segs {sl : Value} {y : DataW H × List MemPlace} {n : Nat} (h : DataW.trod enc Try.prog w 0 (fun _ => true) true n 50 [sl] = some y) :
    ∃ A c l, sl = .slice A l.length c ∧ SegU w (.slice A l.length c) l := by
  rcases open_slice_fields Try.underlying50 Try.underlying53 (by kernel_rfl) segCells h with ⟨hcs, _⟩ | ⟨a, len, cap, m, D, Pl, hcs, _, hlc, hcm, hm, hx, hf⟩
  · simp only [List.cons.injEq, and_true] at hcs
    subst hcs
    exact ⟨none, 0, [], rfl, none, 0, rfl, Nat.le_refl _, by simp, .inl rfl⟩
  · simp only [List.cons.injEq, and_true] at hcs
    subst hcs
    simp only [if_true] at hm
    subst hm
    have hel : ∀ i, i < len → ∃ e : Sg, w.cell? (a.add (i * 4)) = some (vi e.d) ∧ w.cell? (a.add (i * 4 + 1)) = some (vi e.b) ∧ w.cell? (a.add (i * 4 + 2)) = some (vi e.f) ∧ w.cell? (a.add (i * 4 + 3)) = some (vi e.r) := by
      intro i hi
      obtain ⟨ys, n', _, _, _, hfj⟩ := hf i (by omega)
      obtain ⟨v0, y0, c0, _, t0⟩ := hfj 0 _ rfl
      obtain ⟨v1, y1, c1, _, t1⟩ := hfj 1 _ rfl
      obtain ⟨v2, y2, c2, _, t2⟩ := hfj 2 _ rfl
      obtain ⟨v3, y3, c3, _, t3⟩ := hfj 3 _ rfl
      obtain ⟨z0, e0, _, w0⟩ := DataW.trod_int Try.underlying3 t0
      obtain ⟨z1, e1, _, w1⟩ := DataW.trod_int Try.underlying3 t1
      obtain ⟨z2, e2, _, w2⟩ := DataW.trod_int Try.underlying3 t2
      obtain ⟨z3, e3, _, w3⟩ := DataW.trod_int Try.underlying3 t3
      simp only [List.cons.injEq, and_true] at e0 e1 e2 e3
      subst e0 e1 e2 e3
      exact ⟨⟨z0, z1, z2, z3⟩, c0, c1, c2, c3⟩
    obtain ⟨es, hl, hes⟩ := list_of (⟨0, 0, 0, 0⟩ : Sg) (fun i e => w.cell? (a.add (i * 4)) = some (vi e.d) ∧ w.cell? (a.add (i * 4 + 1)) = some (vi e.b) ∧ w.cell? (a.add (i * 4 + 2)) = some (vi e.f) ∧ w.cell? (a.add (i * 4 + 3)) = some (vi e.r)) len hel
    subst hl
    refine ⟨some a, m, es, rfl, some a, m, rfl, by omega, by unfold maxLen at hcm; omega, ?_⟩
    rcases Nat.eq_zero_or_pos es.length with h0 | h0
    · exact .inl h0
    · obtain ⟨b, off, spot⟩ := a
      have c0 := (hes 0 h0).1
      have hspot : spot = none := by simpa [Addr.add] using World.cell?_spot c0
      subst hspot
      have c0' := c0
      rw [ad_add'] at c0'
      obtain ⟨cur, T, fz, hb, _⟩ := cell_blk c0'
      refine .inr ⟨b, off, T, cur, fz, rfl, hb, fun i hi => ?_⟩
      have get : ∀ j v, w.cell? ((⟨b, off, none⟩ : Addr).add j) = some v → cur[off + j]? = some v := by
        intro j v hv
        rw [ad_add'] at hv
        obtain ⟨cur', T', fz', hb', hv'⟩ := cell_blk hv
        rw [hb] at hb'
        simp only [Option.some.injEq, Obj.cells.injEq] at hb'
        obtain ⟨rfl, _⟩ := hb'
        exact hv'
      have hq := hes (i / 4) (by omega)
      obtain ⟨q0, q1, q2, q3⟩ := hq
      obtain ⟨j, q, hq4, rfl⟩ : ∃ j q, q < 4 ∧ i = j * 4 + q := ⟨i / 4, i % 4, by omega, by omega⟩
      rw [show (j * 4 + q) / 4 = j by omega] at q0 q1 q2 q3
      match q, hq4 with
      | 0, _ => rw [Nat.add_zero, sgC_0]; exact get _ _ q0
      | 1, _ => rw [sgC_1]; exact get _ _ q1
      | 2, _ => rw [sgC_2]; exact get _ _ q2
      | 3, _ => rw [sgC_3]; exact get _ _ q3
set_option maxRecDepth 100000 in
theorem open_rates {r : Reach} {b0 : Nat} {v : Value} {d : DataW H} {p : List MemPlace} (hv : Value.okWide Try.prog w r b0 60 v) (h : DataW.Trod enc Try.prog w 0 (fun _ => true) true 60 v d p) :
    ∃ A c l y o, v = .agg #[.slice A l.length c, vI y, vI o] ∧ SegU w (.slice A l.length c) l ∧ I64 y ∧ I64 o := by
  obtain ⟨v0, v1, v2, y0, y1, y2, n, rfl, _, hp, h0, h1, h2⟩ := open_agg3 Try.underlying60 (by kernel_rfl) ratesCells hv h
  obtain ⟨u, e0, _, w0⟩ := DataW.trod_int Try.underlying3 h1
  obtain ⟨x, e1, _, w1⟩ := DataW.trod_int Try.underlying3 h2
  simp only [List.cons.injEq, and_true] at e0 e1
  subst e0 e1
  obtain ⟨A, c, l, rfl, hl⟩ := open_segs h0
  exact ⟨A, c, l, u, x, rfl, hl, wf_I64 w0, wf_I64 w1⟩
set_option maxRecDepth 100000 in
theorem open_label {r : Reach} {b0 : Nat} {v : Value} {d : DataW H} {p : List MemPlace} (hv : Value.okWide Try.prog w r b0 63 v) (h : DataW.Trod enc Try.prog w 0 (fun _ => true) true 63 v d p) :
    ∃ a b c, v = vL a b c ∧ I64 a ∧ I64 b ∧ I64 c := by
  obtain ⟨v0, v1, v2, y0, y1, y2, n, rfl, _, hp, h0, h1, h2⟩ := open_agg3 Try.underlying63 (by kernel_rfl) labelCells hv h
  obtain ⟨u, e0, _, w0⟩ := DataW.trod_int Try.underlying3 h0
  obtain ⟨x, e1, _, w1⟩ := DataW.trod_int Try.underlying3 h1
  obtain ⟨y, e2, _, w2⟩ := DataW.trod_int Try.underlying3 h2
  simp only [List.cons.injEq, and_true] at e0 e1 e2
  subst e0 e1 e2
  exact ⟨u, x, y, rfl, wf_I64 w0, wf_I64 w1, wf_I64 w2⟩
set_option maxRecDepth 100000 in
theorem open_wide {r : Reach} {b0 : Nat} {v : Value} {d : DataW H} {p : List MemPlace} (hv : Value.okWide Try.prog w r b0 66 v) (h : DataW.Trod enc Try.prog w 0 (fun _ => true) true 66 v d p) :
    ∃ z, v = vW z ∧ InW z := by
  obtain ⟨v0, v1, y0, y1, n, rfl, _, hp, h0, h1⟩ := open_agg2 Try.underlying66 (by kernel_rfl) wideCells hv h
  obtain ⟨u, e0, _, w0⟩ := DataW.trod_int Try.underlying2 h0
  obtain ⟨x, e1, _, w1⟩ := DataW.trod_int Try.underlying64 h1
  simp only [List.cons.injEq, and_true] at e0 e1
  subst e0 e1
  have h2 := bounds_i64 w0
  have h3 := bounds_u64 w1
  refine ⟨u * 18446744073709551616 + x, ?_, by unfold InW; omega⟩
  rw [show vW (u * 18446744073709551616 + x) = .agg #[.int .i64 u, .int .u64 x] by
    unfold vW hi lo
    rw [show (u * 18446744073709551616 + x) / 18446744073709551616 = u by omega, show (u * 18446744073709551616 + x) % 18446744073709551616 = x by omega]]
end
end Go.Proofs.Ytdbhgeihphjgeaa

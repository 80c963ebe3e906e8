/- A row of numbers that the call makes and writes: made, read, stored into. Own work. -/
import Derived.Test.YtdfkghpgekmmlaaL7
namespace Go.Proofs.Ytdfkghpgekmmlaa
open Go.RowKit
set_option linter.unusedVariables false
set_option linter.unusedSimpArgs false

abbrev vG (g n : Nat) : Value := .slice (some ⟨g, 0, none⟩) n n
section
variable {R : Reg} {Q : Exit → Act → World → Prop} {i : Nat} {o : Oper}
/-- a row is made -/
theorem s_mk (ho : R.ops[i]? = some o) (hf : free R i = true) (hg : o.guard = none) {x y : Operand} (hop : o.op = .makeSlice 44 x y) (n : Nat) (hV : R.v? i = some fun env => vG (pb env i) n) (hF : noF R i = true) (hth : R.th = some (i, fun env w => OwnR w R.w0.heap.size (vG (pb env i) n) (List.replicate n 0)))
    (z : Int) (hz : z = (n : Int)) (hn : n ≤ 1000000) (hx : ∀ env, opAt R i env x = some (vI z)) (hy : ∀ env, opAt R i env y = some (vI z)) : SR Try.prog Q R i :=
  s_th ho hf (fun {D env a w} hA K hK => by
    rw [if_pos (wanted_none hg _)]
    have hnD : D i = false := hA.i
    have hst0 := hA.j.st
    obtain ⟨i0, hi, hz0, hz1, hz2⟩ := info_parts (show (Try.prog.info? 3).map (fun i => (i.zero, i.size, i.bytes)) = some (some (.int .i64 0), 1, 8) by kernel_rfl)
    obtain ⟨w', hr, h2, h3⟩ := run_make_full (P := Try.prog) w R.w0.heap.size 44 3 i0 (.int .i64 0) 1 Try.underlying44 hi hz0 hz1 .i64 .i64 n (by rw [hz2]; omega) (by unfold maxLen; omega) hst0.gr.size
    have hrun : (execOp a.eval o).run Try.prog w = .ok (.value (vG w.heap.size n)) w' := by
      have e1 := hA.e (hx env)
      have e2 := hA.e (hy env)
      subst hz
      unfold execOp
      simp [hop, e1, e2, hr]
    unfold Oper.wp
    rw [hrun]
    have hown : OwnR w' R.w0.heap.size (vG w.heap.size n) (List.replicate n 0) := by
      unfold OwnR
      rw [List.length_replicate, List.map_replicate]
      have e : (madeCells (Value.int .i64 0).cells (n * 1)).toList = List.replicate n (vi 0) := by
        rw [Nat.mul_one]; exact toList_madeCells_one _ _
      rw [e] at h2
      exact h2
    have hself := cl_self hA.ok ho
    have hb : Below w.heap.size w w' := ⟨h3.os, h3.tape, h3.output, h3.size, fun k hk => h3.block k hk (by simp)⟩
    have hst1 := hst0.call hb
    have e1 : restr (R.cl.getD i []) (upd env i (vG w.heap.size n)) i = vG w.heap.size n := by unfold restr upd; rw [if_pos (List.contains_iff_mem.2 hself), if_pos rfl]
    refine hK (vG w.heap.size n) w' ?_ (fun w'' _ => ⟨fun V' hV' => ?_, fun p hp he => ?_⟩)
    · have ht1 : R.tht (upB D i) (upd env i (vG w.heap.size n)) = fun w'' => OwnR w'' R.w0.heap.size (vG w.heap.size n) (List.replicate n 0) := by
        unfold Reg.tht
        rw [hth]
        simp only [upB_self, if_true, pb, e1]
        rfl
      rw [ht1]
      refine ⟨hst1.gr, hst1.nod, hst1.own, hst1.exb, hst1.psi, fun w'' ha => hown.stab (fun m e hm => ?_) ha⟩
      have := hst0.lt hm
      exact fun e' => by simp [vG, Value.ownBlock] at e'; omega
    · rw [hV] at hV'
      obtain rfl := Option.some.inj hV'
      simp only [pb, e1]
      rfl
    · have := List.all_eq_true.1 hF p hp
      rw [he] at this
      simp at this)
/-- a number is stored into the call's row -/
theorem s_sr (ho : R.ops[i]? = some o) (hf : free R i = true) (hg : o.guard = none) {x y : Operand} (hop : o.op = .store 3 x y) (hV : R.v? i = none) (hF : noF R i = true) {g n : Nat} {ds : List Int} (hex : R.ex = some g) (hΘ : ∀ w, R.Θ w → OwnR w R.w0.heap.size (vG g n) ds)
    (j : Nat) (z : Int) (hth : R.th = some (i, fun _ w => OwnR w R.w0.heap.size (vG g n) (ds.set j z))) (hx : ∀ env, opAt R i env x = some (elt (vG g n) j)) (hy : ∀ env, opAt R i env y = some (vI z)) (hj : j < ds.length) : SR Try.prog Q R i :=
  s_th ho hf (fun {D env a w} hA K hK => by
    rw [if_pos (wanted_none hg _)]
    have hnD : D i = false := hA.i
    have ht0 : R.tht D env = R.Θ := by unfold Reg.tht; rw [hth]; simp [hnD]
    have hst0 := hA.j.st
    rw [ht0] at hst0
    have hO := hΘ w hst0.nowT
    obtain ⟨hO1, hO2⟩ := hO
    rcases hO2 with ⟨hO2, _⟩ | ⟨g', cap, cur, hv, hB, hh, hn, hc, hs, ht⟩
    · cases hO2
    simp only [vG, Value.slice.injEq, Option.some.injEq, Addr.mk.injEq, and_true] at hv
    obtain ⟨rfl, hnl, rfl⟩ := hv
    have hlen' : ds.length = n := hnl.symm
    rw [hlen'] at ht
    have hu : cur.toList[0 + j]? = some (vi (ds.getD j 0)) := by
      have e : (ds.map vi)[j]? = some (vi (ds.getD j 0)) := by
        rw [List.getElem?_map, List.getD_eq_getElem?_getD, List.getElem?_eq_getElem hj]; rfl
      rw [← ht, List.getElem?_take, if_pos (by omega)] at e
      rw [Nat.zero_add]; exact e
    obtain ⟨w', hr, hp⟩ := st3 (b := g) (off := 0 + j) (T0 := 3) (cs := cur.toList) (n0 := z) hu rfl (w := w) (by rw [Array.toArray_toList]; exact hh)
    have hrun : (execOp a.eval o).run Try.prog w = .ok .skip w' := by
      have e1 := hA.e (hx env)
      have e2 := hA.e (hy env)
      unfold execOp
      simp only [elt, vG] at e1
      simp [hop, e1, e2]
      simp at hr
      simp [hr]
    unfold Oper.wp
    rw [hrun]
    have hown : OwnR w' R.w0.heap.size (vG g n) (ds.set j z) := by
      refine ⟨by simp, .inr ⟨g, n, _, by simp [hlen'], hB, hp.here, by simp [hlen'], hc, by simpa using hs, ?_⟩⟩
      rw [Nat.zero_add, List.take_set, List.map_set, ← ht]
      simp [hlen']
    have hgb : w.grownBy w' (some g) := ⟨hp.os, hp.tape, hp.output, by rw [hp.size]; exact Nat.le_refl _, fun k _ hk => hp.off k (fun e => hk (by rw [e]))⟩
    have hM : ∀ m e, R.mem D env m = some e → (vG g n).ownBlock ≠ some e.1 := fun m e hm e' => by
      simp only [vG, Value.ownBlock, Option.some.injEq] at e'
      exact (hst0.exb g hex).2.1 m e hm e'.symm
    refine hK undef w' ?_ (fun w'' _ => f_none hV hF _ w'')
    have ht1 : R.tht (upB D i) (upd env i undef) = fun w'' => OwnR w'' R.w0.heap.size (vG g n) (ds.set j z) := by
      unfold Reg.tht
      rw [hth]
      simp only [upB_self, if_true]
    rw [ht1]
    exact hst0.callg hex hgb (fun w'' ha => hown.stab hM ha))
end
/-- from here on the row's block is the one that may be written -/
theorem Cur.exIn {n : Nat} {w0 : World} {Θ : World → Prop} {L : Slots} {M : List Ent} {a : Act} {w : World} (h : Cur n w0 none none (Facts []) Θ L M a w) {g k : Nat} {ds : List Int} (hΘ : ∀ w, Θ w → OwnR w w0.heap.size (vG g k) ds) : Cur n w0 none (some g) (Facts []) Θ L M a w := by
  refine ⟨h.sz, h.df, ⟨h.st.gr, h.st.nod, h.st.own, fun g' hg' => ?_, fun _ _ φ hφ => (by cases hφ), h.st.the⟩, h.sl⟩
  obtain rfl := Option.some.inj hg'
  have h1 := hΘ w h.st.nowT
  have h2 := h1.lt g rfl
  exact ⟨h2.2, fun m e hm he => own_off (fun w' ha => hΘ w' (h.st.the w' ha)) hm (by rw [he]; rfl), .inl h2.1⟩
/-- .. and no more -/
theorem Cur.exOut {n : Nat} {w0 : World} {row ex : Option Nat} {Ψ Θ : World → Prop} {L : Slots} {M : List Ent} {a : Act} {w : World} (h : Cur n w0 row ex Ψ Θ L M a w) : Cur n w0 row none Ψ Θ L M a w :=
  ⟨h.sz, h.df, ⟨h.st.gr, h.st.nod, h.st.own, fun g' hg' => (by cases hg'), fun w' ha => h.st.psi w' ⟨ha.1, fun k hk hM _ => ha.2 k hk hM (by simp)⟩, h.st.the⟩, h.sl⟩
end Go.Proofs.Ytdfkghpgekmmlaa

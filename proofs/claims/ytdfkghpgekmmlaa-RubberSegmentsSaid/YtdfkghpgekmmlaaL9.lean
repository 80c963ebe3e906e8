/- A row of one number, and a row behind it. Own work. -/
import Derived.Test.YtdfkghpgekmmlaaL8
import Derived.ArgAppend
import Derived.Deep.Upon
namespace Go.Proofs.Ytdfkghpgekmmlaa
open Go.RowKit
set_option linter.unusedVariables false
set_option linter.unusedSimpArgs false

/-- a row of one number, with room for one -/
def One (ex : Option Nat) (w : World) (v : Value) (z : Int) : Prop := ∃ b, v = .slice (some ⟨b, 0, none⟩) 1 1 ∧ w.heap[b]? = some (.cells #[vi z] 3 (0, 0)) ∧ ex ≠ some b
theorem One.keep {ex : Option Nat} {w w' : World} {v : Value} {z : Int} (h : One ex w v z) (hk : Keep ex w w') : One ex w' v z := by
  obtain ⟨b, rfl, h1, h2⟩ := h
  exact ⟨b, rfl, by rw [hk b _ _ h1 h2]; exact h1, h2⟩
theorem One.form {ex : Option Nat} {w : World} {v : Value} {z : Int} (h : One ex w v z) : v = .slice (sA v) 1 1 := by
  obtain ⟨b, rfl, _⟩ := h; rfl
theorem One.re {ex : Option Nat} {w : World} {v : Value} {z : Int} (h : One ex w v z) : One ex w (.slice (sA v) 1 1) z := by
  obtain ⟨b, rfl, h1, h2⟩ := h
  exact ⟨b, rfl, h1, h2⟩
/-- the empty row stands -/
theorem Cur.nilRow {n : Nat} {w0 : World} {row ex : Option Nat} {Θ : World → Prop} {L : Slots} {M : List Ent} {a : Act} {w : World} (h : Cur n w0 row ex (Facts []) Θ L M a w) : Cur n w0 row ex (Facts [fun w => RowX ex w (.slice none 0 0) []]) Θ L M a w :=
  ⟨h.sz, h.df, h.st.mono (fun w' _ φ hφ => by
    rw [List.mem_singleton] at hφ
    subst hφ
    exact ⟨⟨none, 0, rfl, by simp, by simp, .inl rfl⟩, fun g _ e => by cases e⟩) (fun _ h => h), h.sl⟩
section
variable {R : Reg} {Q : Exit → Act → World → Prop} {i : Nat} {o : Oper}
theorem s_bs1 (ho : R.ops[i]? = some o) (hf : free' R i = true) (hw : ∀ {D env a w}, At R i D env a w → Region.wanted o (yielded R.ops a.tmps) = true) (z : Int) (hV : R.v? i = some fun env => .slice (sA (env i)) 1 1) (hF : R.F.filter (fun p => Nat.beq p.1 i) = [(i, fun env w => One R.ex w (env i) z)]) (hint : intFree R = true)
    (hrun : ∀ {D env a w}, At R i D env a w → (execOp a.eval o).run Try.prog w = .ok (.value (.slice (some ⟨w.heap.size, 0, none⟩) 1 1)) (w.alloc (.cells #[vi z] 3 (0, 0)))) : SR Try.prog Q R i :=
  s_gen ho hf (fun {D env a w} hA K hK => by
    rw [if_pos (hw hA)]
    unfold Oper.wp
    rw [hrun hA]
    have hs' := hA.j.st.call (w' := w.alloc (.cells #[vi z] 3 (0, 0))) ⟨rfl, rfl, rfl, by simp, fun k hk => Below.heap_alloc _ _ _ hk⟩
    refine hK _ _ hs' (fun w'' ha => f_fact (φ := fun v w => One R.ex w v z) (form := fun v => .slice (sA v) 1 1) hV (fun v w h => h.form) hF hA.ok ho (One.keep ⟨w.heap.size, rfl, heap_alloc_new w _, fun hg => ?_⟩ (apart_keep hint hs' ha)))
    have := (hA.j.st.exb _ hg).1
    omega)
/-- a row behind one number -/
theorem s_apR (ho : R.ops[i]? = some o) (hf : free' R i = true) (hg : o.guard = none) {s x : Operand} (hop : o.op = .call { callee := .builtin .append, args := #[s, x], argTypes := #[44, 44] })
    (z : Int) (ds : List Int) (hlen : ds.length ≤ 1000000) (hV : R.v? i = some fun env => slF (z :: ds) (env i)) (hF : R.F.filter (fun p => Nat.beq p.1 i) = [(i, fun env w => RowX R.ex w (env i) (z :: ds))]) (hint : intFree R = true)
    {vs vx : Env → Value} (hs : ∀ env, opAt R i env s = some (vs env)) (hx : ∀ env, opAt R i env x = some (vx env)) (h1 : ∀ {D env a w}, At R i D env a w → One R.ex w (vs env) z) (h2 : ∀ {D env a w}, At R i D env a w → Row w (vx env) ds) : SR Try.prog Q R i :=
  s_gen ho hf (fun {D env a w} hA K hK => by
    rw [if_pos (wanted_none hg _)]
    obtain ⟨i0, hi, hz0, hz1, hz2⟩ := info_parts (show (Try.prog.info? 3).map (fun i => (i.zero, i.size, i.bytes)) = some (some (.int .i64 0), 1, 8) by kernel_rfl)
    have e1 := hA.e (hs env)
    have e2 := hA.e (hx env)
    obtain ⟨b, hb1, hb2, hb3⟩ := h1 hA
    have hrow := h2 hA
    obtain ⟨A, c, hv, hc1, hc2, hc3⟩ := h2 hA
    rw [hb1] at e1
    rw [hv] at e2
    have key : ∃ v' w', (Builtin.append_ #[44, 44] o.type #[.slice (some ⟨b, 0, none⟩) 1 1, .slice A ds.length c]).run Try.prog w = .ok v' w' ∧ Below w.heap.size w w' ∧ RowX R.ex w' v' (z :: ds) := by
      rcases Nat.eq_zero_or_pos ds.length with hc4 | hc4
      · have hnil : ds = [] := List.length_eq_zero_iff.1 hc4
        subst hnil
        refine ⟨_, w, ?_, ⟨rfl, rfl, rfl, Nat.le_refl _, fun _ _ => rfl⟩, ⟨_, 1, rfl, by simp, by simp, .inr ⟨b, 0, _, _, rfl, hb2, fun j hj => ?_⟩⟩, fun g hg e => ?_⟩
        · cases A with
          | none => simp [Builtin.append_, run_underlying Try.underlying44, sizeOf, typeInfo, hi, hz1, Builtin.lenOf, run_firstCells_none, storeCells]
          | some a0 =>
            have hf := run_firstCells_some (P := Try.prog) w 1 0 a0 0 c [] rfl (by simp)
            simp [Builtin.append_, run_underlying Try.underlying44, sizeOf, typeInfo, hi, hz1, Builtin.lenOf, hf, storeCells]
        · simp at hj; subst hj; rfl
        · simp only [Value.ownBlock, Option.some.injEq] at e
          exact hb3 (by rw [hg, e])
      · rcases hc3 with hc3 | ⟨b', off, cur, fz, rfl, hb', hcell⟩
        · omega
        obtain ⟨v', w', hr, how, hgr⟩ := run_append_arg_grows (P := Try.prog) w 44 o.type 3 i0 (.int .i64 0) 1 8 Try.underlying44 hi hz0 hz1 hz2 rfl (by decide) ⟨b, 0, none⟩ 1 1 [vi z] rfl (fun q u hq => by
            cases q with
            | zero => simp only [List.getElem?_cons_zero, Option.some.injEq] at hq; subst hq; simp [World.cell?, Addr.add, hb2]
            | succ q => simp at hq) ⟨b', off, none⟩ ds.length c (ds.map vi) (by simp) (fun q u hq => by
            rw [List.getElem?_map] at hq
            have hq2 : q < ds.length := by
              rcases Nat.lt_or_ge q ds.length with h | h
              · exact h
              · rw [List.getElem?_eq_none h] at hq; cases hq
            rw [List.getElem?_eq_getElem hq2] at hq
            have hcq := hcell q hq2
            rw [List.getD_eq_getElem?_getD, List.getElem?_eq_getElem hq2] at hcq
            simp only [Option.map_some, Option.some.injEq] at hq
            subst hq
            have ea : (⟨b', off, none⟩ : Addr).add q = ⟨b', off + q, none⟩ := by unfold Addr.add; split <;> simp_all
            rw [ea]
            simp [World.cell?, hb', hcq]) (by omega) (by unfold maxLen; omega) (by omega)
        · refine ⟨v', w', hr, ⟨hgr.os, hgr.tape, hgr.output, hgr.size, fun k hk => hgr.block k hk (by simp)⟩, ?_⟩
          have ho' : OwnR w' w.heap.size v' (z :: ds) := by
            unfold OwnR
            rw [List.length_cons, Nat.add_comm, List.map_cons]
            exact how
          refine ⟨ho'.row (by simp; omega), fun g hg e => ?_⟩
          have := (ho'.lt g e).1
          have := (hA.j.st.exb g hg).1
          omega
    obtain ⟨v', w', hr, hbel, hres⟩ := key
    have hrun : (execOp a.eval o).run Try.prog w = .ok (.value v') w' := by
      unfold execOp
      simp [hop, resolve, Deferred.ofValue, invoke, builtin, e1, e2, hr]
    unfold Oper.wp
    rw [hrun]
    have hs' := hA.j.st.call hbel
    exact hK _ _ hs' (fun w'' ha => f_fact (φ := fun v w => RowX R.ex w v (z :: ds)) (form := slF (z :: ds)) hV (fun v w h => h.form) hF hA.ok ho (hres.keep (apart_keep hint hs' ha))))
end
end Go.Proofs.Ytdfkghpgekmmlaa

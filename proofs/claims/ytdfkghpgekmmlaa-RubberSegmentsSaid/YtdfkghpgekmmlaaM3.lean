/- Short words for walks over numbers (printed by my m1.py). -/
import Derived.Test.YtdfkghpgekmmlaaM2
import Derived.Test.YtdfkghpgekmmlaaL7
namespace Go.Proofs.Ytdfkghpgekmmlaa
open Go.RowKit
set_option linter.unusedVariables false
set_option linter.unusedSimpArgs false
section
variable {P : Program} {Q : Exit → Act → World → Prop} {R : Reg} {i : Nat} {o : Oper}
/-- a call that yields a number in new memory -/
theorem cb_ {f : FuncId} {fn : Func} {ps : Array Operand} {ts : Array TypeId} (hfn : P.funcs[f]? = some fn) (z : Int) (ho : R.ops[i]? = some o := by rfl) (hf : free' R i = true := by rfl) (hop : o.op = .call { callee := .value (.func f), args := ps, argTypes := ts } := by rfl) (hname : (fn.name == "runtime.NumGoroutine") = false := by kernel_rfl) (hb : fn.body.isSome = true := by rfl) (hw : ∀ D env a w, At R i D env a w → Region.wanted o (yielded R.ops a.tmps) = true := by intro D env a w hA; first | exact wanted_none rfl _ | exact hA.gy rfl rfl rfl) (hV : R.v? i = some (fun env => bigF z (env i)) := by rfl) (hF : R.F.filter (fun p => Nat.beq p.1 i) = [(i, fun env w => BigN R.w0.heap.size w (env i) z)] := by rfl) (hint : intFree R = true := by rfl) (hex : R.ex = none := by rfl) (h : ∀ D env a w, At R i D env a w → ∃ vs : List Value, (Calls P f vs.toArray w fun e w' => ∃ v, e = .returned v ∧ Below w.heap.size w w' ∧ BigN w.heap.size w' v z) ∧ ps.toList.map (opAt R i env) = vs.map some) : SR P Q R i :=
  cf_ hfn (fun v w => BigN R.w0.heap.size w v z) (bigF z) ho hf hop hname hb hw hV hF hint (fun v w h => h.form) (fun v w w' hk h => by rw [hex] at hk; exact h.keep hk) (fun D env a w hA => by
    obtain ⟨vs, h1, h2⟩ := h D env a w hA
    exact ⟨vs, upN hA.j.st.gr.size h1, h2⟩)
end
end Go.Proofs.Ytdfkghpgekmmlaa

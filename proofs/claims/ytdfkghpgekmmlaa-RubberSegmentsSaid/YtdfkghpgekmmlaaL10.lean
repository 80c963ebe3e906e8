/- Two numbers at once, as a quotient comes. Own work. -/
import Derived.Test.YtdfkghpgekmmlaaL7
namespace Go.Proofs.Ytdfkghpgekmmlaa
open Go.RowKit
set_option linter.unusedVariables false
set_option linter.unusedSimpArgs false
def tp (v : Value) (i : Nat) : Value := match v with
  | .tuple xs => xs.getD i undef
  | _ => undef
def DivX (w : World) (v : Value) (z1 z2 : Int) : Prop := v = .tuple #[tp v 0, tp v 1] ∧ BigX none w (tp v 0) z1 ∧ BigX none w (tp v 1) z2
def divF (z1 z2 : Int) (v : Value) : Value := .tuple #[bigF z1 (tp v 0), bigF z2 (tp v 1)]
theorem DivX.form {w : World} {v : Value} {z1 z2 : Int} (h : DivX w v z1 z2) : v = divF z1 z2 v := by
  obtain ⟨h0, h1, h2⟩ := h
  unfold divF
  rw [← h1.form, ← h2.form]
  exact h0
theorem DivX.keep {w w' : World} {v : Value} {z1 z2 : Int} (h : DivX w v z1 z2) (hk : Keep none w w') : DivX w' v z1 z2 := ⟨h.1, h.2.1.keep hk, h.2.2.keep hk⟩
theorem Facts.div1 {L : List (World → Prop)} {w : World} {v : Value} {z1 z2 : Int} (h : Facts L w) (k : Nat) (hk : L[k]? = some (fun w => DivX w v z1 z2)) : Row w (.slice (bA (tp v 0)) (digs z1).length (bC (tp v 0))) (digs z1) := BigX.row (show DivX w v z1 z2 from h.get k hk).2.1
theorem Facts.div2 {L : List (World → Prop)} {w : World} {v : Value} {z1 z2 : Int} (h : Facts L w) (k : Nat) (hk : L[k]? = some (fun w => DivX w v z1 z2)) : Row w (.slice (bA (tp v 1)) (digs z2).length (bC (tp v 1))) (digs z2) := BigX.row (show DivX w v z1 z2 from h.get k hk).2.2
theorem At.div1 {R : Reg} {i : Nat} {D : Nat → Bool} {env : Env} {a : Act} {w : World} (h : At R i D env a w) (j : Nat) {z1 z2 : Int} (hj : ((R.cl.getD i []).contains j && !(j == i)) = true) (hs : ((R.cl.getD j []).contains j) = true) (hF : R.F.filter (fun p => Nat.beq p.1 j) = [(j, fun env w => DivX w (env j) z1 z2)]) : Row w (.slice (bA (tp (env j) 0)) (digs z1).length (bC (tp (env j) 0))) (digs z1) := BigX.row (h.fact j (φ := fun v w => DivX w v z1 z2) hj hs hF).2.1
theorem At.div2 {R : Reg} {i : Nat} {D : Nat → Bool} {env : Env} {a : Act} {w : World} (h : At R i D env a w) (j : Nat) {z1 z2 : Int} (hj : ((R.cl.getD i []).contains j && !(j == i)) = true) (hs : ((R.cl.getD j []).contains j) = true) (hF : R.F.filter (fun p => Nat.beq p.1 j) = [(j, fun env w => DivX w (env j) z1 z2)]) : Row w (.slice (bA (tp (env j) 1)) (digs z2).length (bC (tp (env j) 1))) (digs z2) := BigX.row (h.fact j (φ := fun v w => DivX w v z1 z2) hj hs hF).2.2
theorem toD {P : Program} {f : FuncId} {args : Array Value} {w : World} {z1 z2 : Int} (h : Calls P f args w fun e w' => ∃ v1 v2, e = .returned (.tuple #[v1, v2]) ∧ Below w.heap.size w w' ∧ BigX none w' v1 z1 ∧ BigX none w' v2 z2) : Calls P f args w fun e w' => ∃ v, e = .returned v ∧ Below w.heap.size w w' ∧ DivX w' v z1 z2 := by
  refine h.mono ?_
  rintro e w' ⟨v1, v2, h1, h2, h3, h4⟩
  exact ⟨_, h1, h2, rfl, h3, h4⟩
end Go.Proofs.Ytdfkghpgekmmlaa

/- The address of an element's field. Own work. -/
import Derived.Test.YtdfkghpgekmmlaaL12
namespace Go.Proofs.Ytdfkghpgekmmlaa
open Go.RowKit
set_option linter.unusedVariables false
set_option linter.unusedSimpArgs false
section
variable {R : Reg} {Q : Exit → Act → World → Prop} {i : Nat} {o : Oper}
/-- the address of a field of an element -/
theorem s_fa (ho : R.ops[i]? = some o) (hf : free' R i = true) {T : TypeId} {x : Operand} {fld : Nat} (hop : o.op = .fieldAddr T x fld) (hw : ∀ {D env a w}, At R i D env a w → Region.wanted o (yielded R.ops a.tmps) = true)
    {n k : Nat} {f : Nat → Value} (q off q' : Nat) (hq : q + off = q') {s : Env → Value} (hV : R.v? i = some fun env => elt (s env) q')
    (hx : ∀ env, opAt R i env x = some (elt (s env) q)) (hs : ∀ {D env a w}, At R i D env a w → Els w (s env) n k f) (hj : 0 < n) (hrd : ∀ (b q : Nat) (w : World), (Instr.fieldAt T (.pointer (some ⟨b, q, none⟩)) fld).run Try.prog w = .ok (.pointer (some ⟨b, q + off, none⟩)) w) (hn : noF R i = true := by rfl) (hr : ∀ env x, s (restr (R.cl.getD i []) (upd env i x)) = s env := by intros; rfl) : SR Try.prog Q R i :=
  s_val ho hf hV (fun {D env a w} hA => ⟨hw hA, by
    subst hq
    obtain ⟨A, c, e, h1, h2⟩ := hs hA
    have e1 := hA.e (hx env)
    rw [e] at e1
    rcases h2 with h2 | ⟨b, off', rfl, _⟩
    · omega
    simp only [elt] at e1
    rw [e]
    simp [execOp, hop, e1, hrd, elt, Nat.add_assoc]⟩) hn (fun env x => by simp only [hr])
end
end Go.Proofs.Ytdfkghpgekmmlaa

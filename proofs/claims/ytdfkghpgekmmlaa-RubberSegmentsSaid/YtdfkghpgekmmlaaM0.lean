/- Short words for the start and the end of a call, and for tests. Own work. -/
import Derived.Test.YtdfkghpgekmmlaaL3
namespace Go.Proofs.Ytdfkghpgekmmlaa
open Go.RowKit
set_option linter.unusedVariables false
set_option linter.unusedSimpArgs false
section
variable {P : Program} {n : Nat} {w0 : World} {row ex : Option Nat} {Ψ Θ : World → Prop} {L : Slots} {M : List Ent} {a : Act} {w : World}
theorem cF_ (h : Cur n w0 row ex Ψ Θ L M a w) {t : Tmp} {c1 c2 : Code} {Q : Exit → Act → World → Prop} (k : c2.wp P Q a w) (hv : lk L t = some (.bool false) := by rfl) : (Code.cond (.tmp t) c1 c2).wp P Q a w := wp_cond_false (eval_tmp (h.g hv)) k
theorem cT_ (h : Cur n w0 row ex Ψ Θ L M a w) {t : Tmp} {c1 c2 : Code} {Q : Exit → Act → World → Prop} (k : c1.wp P Q a w) (hv : lk L t = some (.bool true) := by rfl) : (Code.cond (.tmp t) c1 c2).wp P Q a w := wp_cond_true (eval_tmp (h.g hv)) k
theorem en_ {f : FuncId} {fn : Func} {c : Code} {args : Array Value} {R : Ending → World → Prop} (hf : P.funcs[f]? = some fn) (hst : St w row ex w (mem []) (fun _ => True) Θ) (n : Nat) (L : Slots) (k : ∀ a : Act, Cur n w row ex (fun _ => True) Θ L [] a w → c.wp P (bodyPost P fn R) a w) (hb : fn.body = some c := by rfl) (hn : fn.ntmps = n := by rfl) (hle : args.size ≤ n := by exact Nat.le_of_ble_eq_true rfl) (hL : ∀ t v, lk L t = some v → args[t]? = some v := by exact lk_args rfl) : Calls P f args w R := enter hf hb hn hle hst hL k
theorem cellLoad (h : Cur n w0 row ex Ψ Θ L M a w) {m N b : Nat} {T T' : TypeId} {cs : List Value} {v : Value} (hm : M[m]? = some (b, T', cs)) (hrd : ∀ (b : Nat) (w : World), (∀ q x, q < N → cs[0 + q]? = some x → w.cell? ⟨b, 0 + q, none⟩ = some x) → (Instr.loadAt T (.pointer (some ⟨b, 0, none⟩))).run P w = .ok v w) : (Instr.loadAt T (.pointer (some ⟨b, 0, none⟩))).run P w = .ok v w :=
  hrd b w (fun q x _ e => own_cell (h.st.own m _ hm).2 e)
theorem varLoad (h : Cur n w0 row ex Ψ Θ L M a w) {m N b : Nat} {T T' : TypeId} {cs : List Value} {v : Value} (hm : M[m]? = some (b, T', cs)) (hrd : ∀ (b : Nat) (w : World), (∀ q x, q < N → cs[0 + q]? = some x → w.cell? ⟨b, 0 + q, none⟩ = some x) → (Instr.loadAt T (.pointer (some ⟨b, 0, none⟩))).run P w = .ok v w) : (loadVar T ⟨b, 0, none⟩).run P w = .ok v w := by
  have hl := cellLoad h hm hrd
  simpa [Instr.loadAt, Instr.sureAddr, go_sem] using hl
section
variable {fn : Func} {R : Ending → World → Prop}
theorem lvT {t : Tmp} (hr : fn.results = #[.tmp t]) (h : Cur n w0 row ex Ψ Θ L M a w) {v : Value} (k : R (.returned v) w) (hv : lk L t = some v := by rfl) : bodyPost P fn R .ret a w :=
  leave h.df (by simp [results, hr, go_sem, Array.getD_eq_getD_getElem?, h.g hv]) k
theorem lvC {p : Tmp} {T : TypeId} (hr : fn.results = #[.cell p T]) (h : Cur n w0 row ex Ψ Θ L M a w) (m : Nat) {N b : Nat} {T' : TypeId} {cs : List Value} {v : Value} (hrd : ∀ (b : Nat) (w : World), (∀ q x, q < N → cs[0 + q]? = some x → w.cell? ⟨b, 0 + q, none⟩ = some x) → (Instr.loadAt T (.pointer (some ⟨b, 0, none⟩))).run P w = .ok v w) (k : R (.returned v) w) (hm : M[m]? = some (b, T', cs) := by rfl) (hp : lk L p = some (.pointer (some ⟨b, 0, none⟩)) := by rfl) : bodyPost P fn R .ret a w := by
  have h1 := varLoad h hm hrd
  exact leave h.df (by simp [results, hr, go_sem, Array.getD_eq_getD_getElem?, h.g hp, asAddr]; simpa [go_sem] using h1) k
theorem lvCT {p t : Tmp} {T : TypeId} (hr : fn.results = #[.cell p T, .tmp t]) (h : Cur n w0 row ex Ψ Θ L M a w) (m : Nat) {N b : Nat} {T' : TypeId} {cs : List Value} {v v2 : Value} (hrd : ∀ (b : Nat) (w : World), (∀ q x, q < N → cs[0 + q]? = some x → w.cell? ⟨b, 0 + q, none⟩ = some x) → (Instr.loadAt T (.pointer (some ⟨b, 0, none⟩))).run P w = .ok v w) (k : R (.returned (.tuple #[v, v2])) w) (hm : M[m]? = some (b, T', cs) := by rfl) (hp : lk L p = some (.pointer (some ⟨b, 0, none⟩)) := by rfl) (hv : lk L t = some v2 := by rfl) : bodyPost P fn R .ret a w := by
  have h1 := varLoad h hm hrd
  refine leave h.df ?_ k
  unfold results
  rw [hr]
  simp only [List.mapM_toArray, List.mapM_cons, List.mapM_nil, Array.getD_eq_getD_getElem?, h.g hp, h.g hv, Option.getD_some, asAddr, pure_bind]
  generalize loadVar T ⟨b, 0, none⟩ = X at h1 ⊢
  simp [go_sem, h1]
end
end
end Go.Proofs.Ytdfkghpgekmmlaa

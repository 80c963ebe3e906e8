/- The reach of the entries of a table among a law's arguments. -/
import Derived.Test.YtdbhgeihphjgeaaR1
import Derived.SizedLaws
namespace Go.Proofs.Ytdbhgeihphjgeaa
open Go.RowKit Go.ChangeShapes Go.WideShapes Go.ChangeAt Go.Deep Go.Joins
set_option linter.unusedVariables false
set_option linter.unusedSimpArgs false
theorem entryBytes : Try.prog.bytesOf 43 = 16 := by kernel_rfl
section
variable {H : Type} {enc : TypeId × Value → H} {w : World}
set_option maxRecDepth 100000 in
theorem table_reach {r : Reach} {b0 : Nat} {u x : Int} {sl : Value} {es : List (Int × Int)} {d : DataW H} {p : List MemPlace} (hsz : (DataW.weightsEach Try.prog [24] [d]).all (fun k => decide (k ≤ reachBytes)) = true)
    (hv : Value.okWide Try.prog w r b0 24 (.agg #[.int .i64 u, .int .i64 x, sl])) (h : DataW.Trod enc Try.prog w 0 (fun _ => true) true 24 (.agg #[.int .i64 u, .int .i64 x, sl]) d p) {B : Nat} (hE : Ents w B sl es) :
    es.length * 16 ≤ reachBytes := by
  obtain ⟨v0, v1, v2, y0, y1, y2, n, hv', hd, _, _, _, h2⟩ := open_agg3 Try.underlying24 (by kernel_rfl) tableCells hv h
  simp only [Value.agg.injEq, Array.mk.injEq, List.cons.injEq, and_true] at hv'
  obtain ⟨_, _, rfl⟩ := hv'
  obtain ⟨A, c, e, _⟩ := hE
  rcases open_slice_fields Try.underlying22 Try.underlying43 (by kernel_rfl) entryCells h2 with ⟨hcs, _⟩ | ⟨a, len, cap, m, D, Pl, hcs, _, hlc, hcm, hm, hx, hf⟩
  · simp only [List.cons.injEq, and_true] at hcs
    rw [e] at hcs
    simp only [Value.slice.injEq] at hcs
    rw [hcs.2.1]
    simp [reachBytes]
  · simp only [List.cons.injEq, and_true] at hcs
    rw [e] at hcs
    simp only [Value.slice.injEq] at hcs
    obtain ⟨_, hl, _⟩ := hcs
    simp only [if_true] at hm
    have := List.all_eq_true.1 hsz _ (DataW.weights_mem_each (j := 0) (t := 24) rfl (by rw [hd]; rfl) ((len + (m - len)) * 16) (by rw [hx]; simp [DataW.weights, DataW.weightsEach, Try.underlying24, Try.underlying22, entryBytes]))
    simp only [decide_eq_true_eq] at this
    rw [hl]
    omega
end
end Go.Proofs.Ytdbhgeihphjgeaa

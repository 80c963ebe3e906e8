/- The opening of a list of numbers among a law's arguments. -/
import Derived.Test.YtdbhgeihphjgeaaR1
import Derived.Test.YtdbhgeihphjgeaaF5
namespace Go.Proofs.Ytdbhgeihphjgeaa
open Go.RowKit Go.ChangeShapes Go.WideShapes Go.ChangeAt Go.Deep Go.Joins
set_option linter.unusedVariables false
set_option linter.unusedSimpArgs false
section
variable {H : Type} {enc : TypeId × Value → H} {w : World}
set_option maxRecDepth 100000 in
theorem open_nums {r : Reach} {b0 : Nat} {v : Value} {d : DataW H} {p : List MemPlace} (hv : Value.okWide Try.prog w r b0 47 v) (h : DataW.Trod enc Try.prog w 0 (fun _ => true) true 47 v d p) (hlt : ∀ q ∈ p, q.block < w.heap.size) :
    ∃ zs, Nums w w.heap.size v zs ∧ ∀ i, I64 (zs.getD i 0) := by
  obtain ⟨a0, len0, cap0, rfl⟩ := okWide_slice Try.underlying47 hv
  obtain ⟨n, hn⟩ := h
  simp only [Value.cells] at hn
  rcases open_ints Try.underlying47 Try.underlying3 (by kernel_rfl) hn with ⟨hcs, _⟩ | ⟨a, len, cap, zs, hcs, _, hlc, hcm, hm, hx, hf, hw⟩
  · simp only [List.cons.injEq, Value.slice.injEq, and_true] at hcs
    obtain ⟨rfl, rfl, rfl⟩ := hcs
    exact ⟨[], ⟨none, 0, rfl, Nat.le_refl _, by omega, fun h => absurd h (by simp)⟩, fun i => by simp [I64]⟩
  · simp only [List.cons.injEq, Value.slice.injEq, and_true] at hcs
    obtain ⟨rfl, rfl, rfl⟩ := hcs
    simp only [if_true] at hm
    have hI : ∀ i, I64 (zs.getD i 0) := by
      intro i
      by_cases hi : i < zs.length
      · exact wf_I64 (hw _ (by simp [List.getD_eq_getElem?_getD, hi]))
      · have : zs.getD i 0 = 0 := by simp [List.getD_eq_getElem?_getD, List.getElem?_eq_none (show zs.length ≤ i by omega)]
        rw [this]; simp [I64]
    have hg : ∀ i, i < len0 → (zs.take len0).getD i 0 = zs.getD i 0 := by
      intro i hi
      simp [List.getD_eq_getElem?_getD, List.getElem?_take, hi]
    refine ⟨zs.take len0, ⟨some a, cap0, by simp; omega, by simp; omega, by unfold maxLen at hcm; omega, fun hp => ?_⟩, fun i => ?_⟩
    · have hlen : (zs.take len0).length = len0 := by simp; omega
      rw [hlen] at hp
      obtain ⟨b, off, spot⟩ := a
      have c0 := hf 0 (by omega)
      have hspot : spot = none := by simpa [Addr.add] using World.cell?_spot c0
      subst hspot
      refine ⟨b, off, rfl, ?_, fun i hi => ?_⟩
      · have := World.block_lt_of_cell? _ _ c0
        simpa [Addr.add] using this
      · rw [hlen] at hi
        rw [hg i hi]
        have := hf i (by omega)
        rwa [ad_add'] at this
    · by_cases hi : i < len0
      · rw [hg i hi]; exact hI i
      · have : (zs.take len0).getD i 0 = 0 := by rw [List.getD_eq_getElem?_getD, List.getElem?_eq_none (by simp; omega)]; rfl
        rw [this]; simp [I64]
end
end Go.Proofs.Ytdbhgeihphjgeaa

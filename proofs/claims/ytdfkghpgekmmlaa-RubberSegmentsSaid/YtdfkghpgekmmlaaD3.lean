/- Walks of package leaps: make. -/
import Derived.Test.YtdfkghpgekmmlaaD2
import Derived.Deep.AppendLies
import Derived.Deep.RegionLaw
import Derived.StillTailTactics
namespace Go.Proofs.Ytdfkghpgekmmlaa
open Go.RowKit
set_option linter.unusedVariables false
set_option linter.unusedSimpArgs false

/-- an entry's day -/
def dayOf (e : Int × Int) : Int := 15020 + e.1 / 86400
/-- the TAI second with which it begins -/
def startOf (e : Int × Int) : Int := dayOf e * 86400 + e.2
def markC (e : Int × Int) : List Value := [.int .i64 (dayOf e), .int .i64 e.2, .int .i64 (startOf e)]
theorem markC_len (e : Int × Int) : (markC e).length = 3 := rfl
theorem okPre_len {es : List (Int × Int)} (h : okPre es es.length = true) : es.length ≤ 64 := by
  rcases Nat.eq_zero_or_pos es.length with h0 | h0
  · omega
  · have := okE_off (okPre_at h (show es.length - 1 < es.length by omega))
    have h2 := this.2.2.2.2.2
    rw [List.length_take] at h2
    omega
theorem okPre_num {es : List (Int × Int)} (h : okPre es es.length = true) {i : Nat} (hi : i < es.length) : 0 ≤ (es.getD i (0, 0)).1 ∧ (es.getD i (0, 0)).1 ≤ 1125899906842624 ∧ 0 ≤ (es.getD i (0, 0)).2 ∧ (es.getD i (0, 0)).2 ≤ 1000 ∧ (es.getD i (0, 0)).1 % 86400 = 0 := by
  have := okE_off (okPre_at h hi)
  omega
theorem take_snoc' {α : Type} (l : List α) (k : Nat) (d : α) (h : k < l.length) : l.take (k + 1) = l.take k ++ [l.getD k d] := by
  rw [List.take_succ_eq_append_getElem h, List.getD_eq_getElem?_getD, List.getElem?_eq_getElem h]; rfl

/-! ### only block g has turned, and what is new -/
theorem gr_al {w W : World} {r : Option Nat} (h : w.grownBy W r) (o : Obj) : w.grownBy (W.alloc o) r :=
  ⟨h.os, h.tape, h.output, Nat.le_trans h.size (by simp), fun i hi hne => (Below.heap_alloc W o i (Nat.lt_of_lt_of_le hi h.size)).trans (h.block i hi hne)⟩
theorem gr_dr {w W : World} {r : Option Nat} (h : w.grownBy W r) : w.grownBy W.drew r := ⟨h.os, h.tape, h.output, h.size, h.block⟩
theorem gr_drN {w W : World} {r : Option Nat} (h : w.grownBy W r) (n : Nat) : w.grownBy (W.drewN n) r := ⟨h.os, h.tape, h.output, h.size, h.block⟩
theorem gr_set {w W : World} {g : Nat} (h : w.grownBy W (some g)) {p : Addr} (hp : p.block = g ∨ w.heap.size ≤ p.block) (u : Value) : w.grownBy (W.setCell p u) (some g) :=
  ⟨h.os, h.tape, h.output, by simpa [World.setCell] using h.size, fun i hi hne => (Below.heap_setCell W p u i (by
    rintro rfl
    rcases hp with hp | hp
    · exact hne (by rw [hp])
    · omega)).trans (h.block i hi hne)⟩
theorem gr_bel {w W W' : World} {r : Option Nat} (h : w.grownBy W r) (k : Below W.heap.size W W') : w.grownBy W' r :=
  ⟨k.os.trans h.os, k.tape.trans h.tape, k.output.trans h.output, Nat.le_trans h.size k.size, fun i hi hne => (k.block i (Nat.lt_of_lt_of_le hi h.size)).trans (h.block i hi hne)⟩
theorem gr_of_bel {w W : World} (h : Below w.heap.size w W) (r : Option Nat) : w.grownBy W r := ⟨h.os, h.tape, h.output, h.size, fun i hi _ => h.block i hi⟩
theorem gr_tr {w W W' : World} {r r' : Option Nat} (h : w.grownBy W r) (k : W.grownBy W' r') (hr : r' = r ∨ r' = none ∨ ∀ i, r' = some i → w.heap.size ≤ i) : w.grownBy W' r :=
  ⟨k.os.trans h.os, k.tape.trans h.tape, k.output.trans h.output, Nat.le_trans h.size k.size, fun i hi hne => (k.block i (Nat.lt_of_lt_of_le hi h.size) (by
    rcases hr with rfl | rfl | hr
    · exact hne
    · simp
    · intro e; have := hr i e.symm; omega)).trans (h.block i hi hne)⟩

end Go.Proofs.Ytdfkghpgekmmlaa

/- Walks of package list's Check: which tables may be. -/
import Derived.Test.YtdfkghpgekmmlaaB
namespace Go.Proofs.Ytdfkghpgekmmlaa
open Go.RowKit
set_option linter.unusedVariables false
set_option linter.unusedSimpArgs false

/-- A slice of entries (two cells an element) that reads as es, and lies below block B. -/
def Ents (w : World) (B : Nat) (v : Value) (es : List (Int × Int)) : Prop :=
  ∃ A c, v = .slice A es.length c ∧ es.length ≤ c ∧ c ≤ 9223372036854775807 ∧ (0 < es.length → ∃ b off, A = some ⟨b, off, none⟩ ∧ b < B ∧
    ∀ i, i < es.length → w.cell? ⟨b, off + i * 2, none⟩ = some (.int .i64 (es.getD i (0, 0)).1) ∧ w.cell? ⟨b, off + i * 2 + 1, none⟩ = some (.int .i64 (es.getD i (0, 0)).2))
/-- numbers of 64 bits -/
def I64 (x : Int) : Prop := -9223372036854775808 ≤ x ∧ x ≤ 9223372036854775807
def inB (n m : Int) : Bool := decide (0 ≤ n) && decide (n ≤ m)
/-- may an entry stand behind others? -/
def okE (es : List (Int × Int)) (e : Int × Int) : Bool :=
  decide (es.length < 64) && inB e.1 1125899906842624 && (e.1 % 86400 == 0) && inB e.2 1000 &&
    match es.getLast? with
    | none => true
    | some l => decide (l.1 < e.1) && (e.2 - l.2 == 1 || e.2 - l.2 == -1)

theorem okE_last (ds : List (Int × Int)) (l e : Int × Int) : okE (ds ++ [l]) e = (decide (ds.length + 1 < 64) && inB e.1 1125899906842624 && (e.1 % 86400 == 0) && inB e.2 1000 && (decide (l.1 < e.1) && (e.2 - l.2 == 1 || e.2 - l.2 == -1))) := by simp [okE]

/-! ### Check -/
theorem Ents.take {w : World} {B : Nat} {A : Option Addr} {c : Nat} {es : List (Int × Int)} (h : Ents w B (.slice A es.length c) es) (k : Nat) (hk : k ≤ es.length) : Ents w B (.slice A k c) (es.take k) := by
  obtain ⟨A', c', e, h1, h2, h3⟩ := h
  simp only [Value.slice.injEq] at e
  obtain ⟨rfl, _, rfl⟩ := e
  have hl : (es.take k).length = k := by simp; omega
  refine ⟨A, c, by rw [hl], by omega, h2, fun hp => ?_⟩
  obtain ⟨b, off, hA, hb, hc⟩ := h3 (by omega)
  refine ⟨b, off, hA, hb, fun i hi => ?_⟩
  have hik : i < k := by omega
  have := hc i (by omega)
  rw [show (es.take k).getD i (0, 0) = es.getD i (0, 0) by simp [List.getD_eq_getElem?_getD, List.getElem?_take, hik]]
  exact this
theorem Ents.below {w w' : World} {B : Nat} {v : Value} {es : List (Int × Int)} (h : Ents w B v es) (hb : Below B w w') : Ents w' B v es := by
  obtain ⟨A, c, e, h1, h2, h3⟩ := h
  refine ⟨A, c, e, h1, h2, fun hp => ?_⟩
  obtain ⟨b, off, hA, hbB, hc⟩ := h3 hp
  refine ⟨b, off, hA, hbB, fun i hi => ?_⟩
  rw [hb.cell (p := ⟨b, _, none⟩) hbB, hb.cell (p := ⟨b, _, none⟩) hbB]
  exact hc i hi
theorem Ents.mono {w : World} {B B' : Nat} {v : Value} {es : List (Int × Int)} (h : Ents w B v es) (hB : B ≤ B') : Ents w B' v es := by
  obtain ⟨A, c, e, h1, h2, h3⟩ := h
  refine ⟨A, c, e, h1, h2, fun hp => ?_⟩
  obtain ⟨b, off, hA, hbB, hc⟩ := h3 hp
  exact ⟨b, off, hA, by omega, hc⟩

/-- the first k entries may be, one behind the other -/
def okPre (es : List (Int × Int)) (k : Nat) : Bool := (List.range k).all fun i => okE (es.take i) (es.getD i (0, 0))
/-- may a table be? -/
def okT (u x : Int) (es : List (Int × Int)) : Bool := okPre es es.length && !es.isEmpty && inB u 999999999999999999 && inB x 999999999999999999
def errT (b : Bool) : Int := if b then 0 else 10
theorem okPre_zero (es : List (Int × Int)) : okPre es 0 = true := rfl
theorem okPre_succ (es : List (Int × Int)) (k : Nat) : okPre es (k + 1) = (okPre es k && okE (es.take k) (es.getD k (0, 0))) := by
  unfold okPre; rw [List.range_succ, List.all_append]; simp
theorem okPre_mono {es : List (Int × Int)} {k n : Nat} (h : okPre es n = true) (hk : k ≤ n) : okPre es k = true := by
  unfold okPre at *; rw [List.all_eq_true] at *; intro i hi; exact h i (by simp at *; omega)
theorem okPre_at {es : List (Int × Int)} {k i : Nat} (h : okPre es k = true) (hi : i < k) : okE (es.take i) (es.getD i (0, 0)) = true := by
  unfold okPre at h; rw [List.all_eq_true] at h; exact h i (by simpa using hi)
theorem okE_off {es : List (Int × Int)} {e : Int × Int} (h : okE es e = true) : 0 ≤ e.2 ∧ e.2 ≤ 1000 ∧ 0 ≤ e.1 ∧ e.1 ≤ 1125899906842624 ∧ e.1 % 86400 = 0 ∧ es.length < 64 := by
  simp [okE, inB] at h; omega
theorem okPre_off {es : List (Int × Int)} {k : Nat} (h : okPre es k = true) (hk : k ≤ es.length) : ∀ x ∈ es.take k, 0 ≤ x.2 ∧ x.2 ≤ 1000 := by
  intro x hx
  obtain ⟨i, hi, rfl⟩ := List.mem_iff_getElem.1 hx
  have hik : i < k := by simp at hi; omega
  have := okE_off (okPre_at h hik)
  rw [List.getD_eq_getElem?_getD, List.getElem?_eq_getElem (by omega)] at this
  simp only [List.getElem_take]
  exact ⟨this.1, this.2.1⟩

/-- what Check answers: an error, or none -/
def CheckPost (b : Bool) (w : World) (e : Ending) (w' : World) : Prop := ∃ m : Int, e = .returned (.tuple #[.int .i64 m, .int .i64 (errT b)]) ∧ Below w.heap.size w w'

end Go.Proofs.Ytdfkghpgekmmlaa

/- Walks of package leaps: New and what it makes. -/
import Derived.Test.YtdfkghpgekmmlaaD1
import Derived.Laws.CopyOwn
import Derived.Laws.MakeOwn
namespace Go.Proofs.Ytdfkghpgekmmlaa
open Go.RowKit
set_option linter.unusedVariables false
set_option linter.unusedSimpArgs false

/-! ### rows of elements of k cells -/
theorem flat_len {α : Type} (f : α → List Value) (k : Nat) (hf : ∀ x, (f x).length = k) : ∀ xs : List α, (xs.flatMap f).length = xs.length * k
  | [] => by simp
  | x :: xs => by rw [List.flatMap_cons, List.length_append, hf, flat_len f k hf xs, List.length_cons, Nat.add_mul]; omega
theorem flat_get {α : Type} (f : α → List Value) (k : Nat) (hf : ∀ x, (f x).length = k) : ∀ (xs : List α) (i j : Nat) (x : α), xs[i]? = some x → j < k → (xs.flatMap f)[i * k + j]? = (f x)[j]?
  | [], i, j, x, h, _ => by simp at h
  | y :: ys, 0, j, x, h, hj => by
    simp only [List.getElem?_cons_zero, Option.some.injEq] at h
    subst h
    rw [List.flatMap_cons, Nat.zero_mul, Nat.zero_add, List.getElem?_append_left (by rw [hf]; exact hj)]
  | y :: ys, i + 1, j, x, h, hj => by
    rw [List.flatMap_cons, List.getElem?_append_right (by rw [hf, Nat.add_mul]; omega), hf, show (i + 1) * k + j - k = i * k + j by rw [Nat.add_mul]; omega]
    exact flat_get f k hf ys i j x (by simpa using h) hj
def entC (e : Int × Int) : List Value := [.int .i64 e.1, .int .i64 e.2]
theorem entC_len (e : Int × Int) : (entC e).length = 2 := rfl
theorem ad_add (b o j : Nat) : (⟨b, o, none⟩ : Addr).add j = ⟨b, o + j, none⟩ := by unfold Addr.add; split <;> simp_all

/-- A block that is known whole. -/
def Blk (w : World) (g : Nat) (t : TypeId) (cs : Array Value) : Prop := w.heap[g]? = some (.cells cs t (0, 0))
theorem Blk.lt {w : World} {g : Nat} {t : TypeId} {cs : Array Value} (h : Blk w g t cs) : g < w.heap.size := by
  rcases Nat.lt_or_ge g w.heap.size with hlt | hge
  · exact hlt
  · unfold Blk at h; rw [Array.getElem?_eq_none hge] at h; cases h
theorem Blk.cell {w : World} {g : Nat} {t : TypeId} {cs : Array Value} (h : Blk w g t cs) (i : Nat) : w.cell? ⟨g, i, none⟩ = cs[i]? := cell_of_row w g i cs t (0, 0) h
theorem Blk.frozen {w : World} {g : Nat} {t : TypeId} {cs : Array Value} (h : Blk w g t cs) (i : Nat) : w.frozen? ⟨g, i, none⟩ = false := by
  unfold Blk at h; simp [World.frozen?, h]
theorem Blk.new (w : World) (t : TypeId) (cs : Array Value) : Blk (w.alloc (.cells cs t)) w.heap.size t cs := heap_alloc_new w _
theorem Blk.below {w w' : World} {B g : Nat} {t : TypeId} {cs : Array Value} (h : Blk w g t cs) (hb : Below B w w') (hg : g < B) : Blk w' g t cs := (hb.block g hg).trans h
theorem Blk.grown {w w' : World} {g : Nat} {t : TypeId} {cs : Array Value} {row : Option Nat} (h : Blk w g t cs) (hb : w.grownBy w' row) (hg : some g ≠ row) : Blk w' g t cs := (hb.block g h.lt hg).trans h
theorem Blk.set_ {w : World} {g : Nat} {t : TypeId} {cs : Array Value} (h : Blk w g t cs) (i : Nat) (u : Value) : Blk (w.setCell ⟨g, i, none⟩ u) g t (cs.setIfInBounds i u) := by
  unfold Blk at h ⊢
  simp [World.setCell, Array.getElem?_modify, h]
theorem Blk.alloc {w : World} {g : Nat} {t : TypeId} {cs : Array Value} (h : Blk w g t cs) (o : Obj) : Blk (w.alloc o) g t cs := (Below.heap_alloc w o g h.lt).trans h
theorem Blk.drew {w : World} {g : Nat} {t : TypeId} {cs : Array Value} (h : Blk w g t cs) : Blk w.drew g t cs := h
theorem Blk.drewN {w : World} {g : Nat} {t : TypeId} {cs : Array Value} (h : Blk w g t cs) (n : Nat) : Blk (w.drewN n) g t cs := h
theorem Blk.far {w : World} {g : Nat} {t : TypeId} {cs : Array Value} (h : Blk w g t cs) {p : Addr} (hp : g ≠ p.block) (u : Value) : Blk (w.setCell p u) g t cs := (Below.heap_setCell w p u g hp).trans h
theorem Blk.ents {w : World} {g : Nat} {t : TypeId} {es : List (Int × Int)} {c : Nat} (h : Blk w g t (es.flatMap entC).toArray) (hc : es.length ≤ c) (hc2 : c ≤ 9223372036854775807) {B : Nat} (hB : g < B) : Ents w B (.slice (some ⟨g, 0, none⟩) es.length c) es := by
  refine ⟨_, _, rfl, hc, hc2, fun hp => ⟨g, 0, rfl, hB, fun i hi => ?_⟩⟩
  have h1 : es[i]? = some (es.getD i (0, 0)) := by simp [List.getD_eq_getElem?_getD, List.getElem?_eq_getElem hi]
  have a0 := flat_get entC 2 entC_len es i 0 _ h1 (by omega)
  have a1 := flat_get entC 2 entC_len es i 1 _ h1 (by omega)
  rw [h.cell, h.cell]
  simp only [List.getElem?_toArray, Nat.zero_add]
  exact ⟨a0, a1⟩
theorem Ents.cells {w : World} {B : Nat} {A : Option Addr} {n c : Nat} {es : List (Int × Int)} (h : Ents w B (.slice A n c) es) (hp : 0 < n) : ∃ ad, A = some ad ∧ ∀ j v, (es.flatMap entC)[j]? = some v → w.cell? (ad.add j) = some v := by
  obtain ⟨A', c', e, h1, h2, h3⟩ := h
  simp only [Value.slice.injEq] at e
  obtain ⟨rfl, rfl, rfl⟩ := e
  obtain ⟨b, off, rfl, hb, hc⟩ := h3 hp
  refine ⟨_, rfl, fun j v hj => ?_⟩
  rw [ad_add]
  have hjl : j < es.length * 2 := by rw [← flat_len entC 2 entC_len es]; exact (List.getElem?_eq_some_iff.1 hj).1
  have hi : j / 2 < es.length := by omega
  have h1 : es[j / 2]? = some (es.getD (j / 2) (0, 0)) := by simp [List.getD_eq_getElem?_getD, List.getElem?_eq_getElem hi]
  have h5 := flat_get entC 2 entC_len es (j / 2) (j % 2) _ h1 (by omega)
  rw [show j / 2 * 2 + j % 2 = j by omega, hj] at h5
  obtain ⟨c0, c1⟩ := hc (j / 2) hi
  rcases Nat.mod_two_eq_zero_or_one j with hm | hm
  · rw [hm] at h5; simp only [entC, List.getElem?_cons_zero] at h5
    rw [show off + j = off + j / 2 * 2 by omega, c0, h5]
  · rw [hm] at h5; simp only [entC, List.getElem?_cons_succ, List.getElem?_cons_zero] at h5
    rw [show off + j = off + j / 2 * 2 + 1 by omega, c1, h5]

/-! ### copy of a whole row, whatever the elements' size; make -/
theorem run_copy_whole {P : Program} (w : World) (dT sT ty elem : TypeId) (k g dCap : Nat) (A : Option Addr) (n sCap : Nat) (cur : Array Value) (t : TypeId) (cs : List Value)
    (hu : P.underlying dT = some (.slice elem)) (hs : (P.info? elem).map (·.size) = some k)
    (hg : w.heap[g]? = some (.cells cur t (0, 0))) (hn : cs.length = n * k) (hcur : cur.size = n * k) (hk : 0 < k)
    (hsrc : 0 < n → ∃ ad, A = some ad ∧ ∀ j v, cs[j]? = some v → w.cell? (ad.add j) = some v) (h1 : ∀ v ∈ cs, v.oneCell' = true) :
    (Builtin.copy_ #[dT, sT] ty #[.slice (some ⟨g, 0, none⟩) n dCap, .slice A n sCap]).run P w = .ok (goInt n) (w.setRow g cs.toArray) := by
  have hst := run_storeCells_at P g 0 t cs 0 cur w hg (by simp; omega) h1
  have hst' : (storeCells ⟨g, 0, none⟩ cs).run P w = .ok () (w.setRow g cs.toArray) := by
    rw [hst]; congr 3
    simp only [Nat.add_zero, Nat.zero_add, List.take_zero, List.nil_append]
    rw [List.drop_eq_nil_of_le (by simp; omega), List.append_nil]
  cases hq : P.info? elem with
  | none => simp [hq] at hs
  | some i =>
    have hi : i.size = k := by simpa [hq] using hs
    rcases Nat.eq_zero_or_pos n with h0 | h0
    · subst h0
      have hnil : cs = [] := List.eq_nil_of_length_eq_zero (by simpa using hn)
      subst hnil
      have hl := run_loadCells_list (P := P) w ⟨0, 0, none⟩ [] (by simp)
      cases A with
      | none => simp [Builtin.copy_, run_underlying hu, Builtin.lenOf, Builtin.firstCells, sizeOf, typeInfo, hq, hst']
      | some a =>
        have hl := run_loadCells_list (P := P) w a [] (by simp)
        simp at hl
        simp [Builtin.copy_, run_underlying hu, Builtin.lenOf, Builtin.firstCells, sizeOf, typeInfo, hq, hl, hst']
    · obtain ⟨ad, rfl, hc⟩ := hsrc h0
      have hl := run_loadCells_list (P := P) w ad cs hc
      rw [hn] at hl
      simp [Builtin.copy_, run_underlying hu, Builtin.lenOf, Builtin.firstCells, sizeOf, typeInfo, hq, hi, hl, hst']
theorem run_make_rowN {P : Program} (t e : TypeId) (i : TypeInfo) (z : Value) (ht : P.underlying t = some (.slice e)) (hi : P.info? e = some i) (hz : i.zero = some z)
    (kl kc : IntKind) (n c : Nat) (hnc : n ≤ c) (hbytes : i.bytes * c ≤ 281474976710656) (h63 : c ≤ 9223372036854775807) (w : World) :
    (Instr.makeSlice t (.int kl (n : Int)) (.int kc (c : Int))).run P w = .ok (.slice (some ⟨w.heap.size, 0, none⟩) n c) (w.alloc (.cells (madeCells z.cells (c * i.size)) e)) := by
  have hb : (i.bytes : Int) * (c : Int) ≤ 281474976710656 := by
    have h : ((i.bytes * c : Nat) : Int) ≤ 281474976710656 := by omega
    rwa [Int.natCast_mul] at h
  have hr := run_make (P := P) w t e i z ht hi hz kl kc n c (by omega) (by omega) hb (by omega)
  simp only [Int.toNat_natCast] at hr
  exact hr
end Go.Proofs.Ytdfkghpgekmmlaa

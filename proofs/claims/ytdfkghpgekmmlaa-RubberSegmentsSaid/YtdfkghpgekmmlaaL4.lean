/- how each type is read out of memory and stored (printed by my walk.py) -/
import Derived.Test.YtdfkghpgekmmlaaL3
namespace Go.Proofs.Ytdfkghpgekmmlaa
open Go.RowKit
set_option linter.unusedVariables false
set_option linter.unusedSimpArgs false
attribute [local go_sem] vW vM vL vT2 vT3 vP vI execOp Act.eval hi_zero lo_zero

theorem rd2 {off : Nat} {cs : List Value} {v0 : Value} (e0 : cs[off]? = some v0) (b : Nat) (w : World) (h : ∀ q x, q < 1 → cs[off + q]? = some x → w.cell? ⟨b, off + q, none⟩ = some x) : (Instr.loadAt 2 (.pointer (some ⟨b, off, none⟩))).run Try.prog w = .ok v0 w := by
  have c0 := h 0 v0 (by omega) e0
  simp only [Nat.add_zero] at c0
  simp [go_sem, c0]
theorem le2 {g : Nat → Value} {v0 : Value} (e0 : g 0 = v0) (b off : Nat) (w : World) (h : ∀ p, p < 1 → w.cell? ⟨b, off + p, none⟩ = some (g p)) : (Instr.loadAt 2 (.pointer (some ⟨b, off, none⟩))).run Try.prog w = .ok v0 w := by
  have c0 := h 0 (by omega)
  subst e0
  simp only [Nat.add_zero] at c0
  simp [go_sem, c0]
theorem rd3 {off : Nat} {cs : List Value} {v0 : Value} (e0 : cs[off]? = some v0) (b : Nat) (w : World) (h : ∀ q x, q < 1 → cs[off + q]? = some x → w.cell? ⟨b, off + q, none⟩ = some x) : (Instr.loadAt 3 (.pointer (some ⟨b, off, none⟩))).run Try.prog w = .ok v0 w := by
  have c0 := h 0 v0 (by omega) e0
  simp only [Nat.add_zero] at c0
  simp [go_sem, c0]
theorem le3 {g : Nat → Value} {v0 : Value} (e0 : g 0 = v0) (b off : Nat) (w : World) (h : ∀ p, p < 1 → w.cell? ⟨b, off + p, none⟩ = some (g p)) : (Instr.loadAt 3 (.pointer (some ⟨b, off, none⟩))).run Try.prog w = .ok v0 w := by
  have c0 := h 0 (by omega)
  subst e0
  simp only [Nat.add_zero] at c0
  simp [go_sem, c0]
theorem st3 {b off T0 : Nat} {cs cs' : List Value} {u0 : Value} {n0 : Int} (e0 : cs[off]? = some u0) (e : (cs.set (off) (.int .i64 n0)) = cs') {w : World} (hc : w.heap[b]? = some (.cells cs.toArray T0 (0, 0))) : ∃ w', (Instr.storeAt 3 (.pointer (some ⟨b, off, none⟩)) (.int .i64 n0)).run Try.prog w = .ok () w' ∧ Put w w' b (.cells cs'.toArray T0 (0, 0)) := by
  have c0 := own_cell hc e0
  have f0 := own_frozen (o := off) hc
  exact ⟨_, by simp [go_sem, c0, f0], ((Put.refl hc).set (off) (.int .i64 n0) e)⟩
theorem rd4 {off : Nat} {cs : List Value} {v0 : Value} (e0 : cs[off]? = some v0) (b : Nat) (w : World) (h : ∀ q x, q < 1 → cs[off + q]? = some x → w.cell? ⟨b, off + q, none⟩ = some x) : (Instr.loadAt 4 (.pointer (some ⟨b, off, none⟩))).run Try.prog w = .ok v0 w := by
  have c0 := h 0 v0 (by omega) e0
  simp only [Nat.add_zero] at c0
  simp [go_sem, c0]
theorem le4 {g : Nat → Value} {v0 : Value} (e0 : g 0 = v0) (b off : Nat) (w : World) (h : ∀ p, p < 1 → w.cell? ⟨b, off + p, none⟩ = some (g p)) : (Instr.loadAt 4 (.pointer (some ⟨b, off, none⟩))).run Try.prog w = .ok v0 w := by
  have c0 := h 0 (by omega)
  subst e0
  simp only [Nat.add_zero] at c0
  simp [go_sem, c0]
theorem rd22 {off : Nat} {cs : List Value} {v0 : Value} (e0 : cs[off]? = some v0) (b : Nat) (w : World) (h : ∀ q x, q < 1 → cs[off + q]? = some x → w.cell? ⟨b, off + q, none⟩ = some x) : (Instr.loadAt 22 (.pointer (some ⟨b, off, none⟩))).run Try.prog w = .ok v0 w := by
  have c0 := h 0 v0 (by omega) e0
  simp only [Nat.add_zero] at c0
  simp [go_sem, c0]
theorem le22 {g : Nat → Value} {v0 : Value} (e0 : g 0 = v0) (b off : Nat) (w : World) (h : ∀ p, p < 1 → w.cell? ⟨b, off + p, none⟩ = some (g p)) : (Instr.loadAt 22 (.pointer (some ⟨b, off, none⟩))).run Try.prog w = .ok v0 w := by
  have c0 := h 0 (by omega)
  subst e0
  simp only [Nat.add_zero] at c0
  simp [go_sem, c0]
theorem rd25 {off : Nat} {cs : List Value} {v0 v1 v2 v3 : Value} (e0 : cs[off]? = some v0) (e1 : cs[off + 1]? = some v1) (e2 : cs[off + 2]? = some v2) (e3 : cs[off + 3]? = some v3) (b : Nat) (w : World) (h : ∀ q x, q < 4 → cs[off + q]? = some x → w.cell? ⟨b, off + q, none⟩ = some x) : (Instr.loadAt 25 (.pointer (some ⟨b, off, none⟩))).run Try.prog w = .ok (.agg #[v0, v1, v2, v3]) w := by
  have c0 := h 0 v0 (by omega) e0
  have c1 := h 1 v1 (by omega) e1
  have c2 := h 2 v2 (by omega) e2
  have c3 := h 3 v3 (by omega) e3
  simp only [Nat.add_zero] at c0
  simp [go_sem, Try.underlying25, c0, c1, c2, c3]
theorem le25 {g : Nat → Value} {v0 v1 v2 v3 : Value} (e0 : g 0 = v0) (e1 : g 1 = v1) (e2 : g 2 = v2) (e3 : g 3 = v3) (b off : Nat) (w : World) (h : ∀ p, p < 4 → w.cell? ⟨b, off + p, none⟩ = some (g p)) : (Instr.loadAt 25 (.pointer (some ⟨b, off, none⟩))).run Try.prog w = .ok (.agg #[v0, v1, v2, v3]) w := by
  have c0 := h 0 (by omega)
  have c1 := h 1 (by omega)
  have c2 := h 2 (by omega)
  have c3 := h 3 (by omega)
  subst e0 e1 e2 e3
  simp only [Nat.add_zero] at c0
  simp [go_sem, Try.underlying25, c0, c1, c2, c3]
theorem st25 {b off T0 : Nat} {cs cs' : List Value} {u0 u1 u2 u3 : Value} {n0 : Int} {n1 : Int} {n2 : Int} {n3 : Int} (e0 : cs[off]? = some u0) (e1 : cs[off + 1]? = some u1) (e2 : cs[off + 2]? = some u2) (e3 : cs[off + 3]? = some u3) (e : ((((cs.set (off) (.int .i64 n0)).set (off + 1) (.int .i64 n1)).set (off + 2) (.int .i64 n2)).set (off + 3) (.int .i64 n3)) = cs') {w : World} (hc : w.heap[b]? = some (.cells cs.toArray T0 (0, 0))) : ∃ w', (Instr.storeAt 25 (.pointer (some ⟨b, off, none⟩)) (.agg #[.int .i64 n0, .int .i64 n1, .int .i64 n2, .int .i64 n3])).run Try.prog w = .ok () w' ∧ Put w w' b (.cells cs'.toArray T0 (0, 0)) := by
  have c0 := own_cell hc e0
  have f0 := own_frozen (o := off) hc
  have c1 := own_cell hc e1
  have f1 := own_frozen (o := off + 1) hc
  have c2 := own_cell hc e2
  have f2 := own_frozen (o := off + 2) hc
  have c3 := own_cell hc e3
  have f3 := own_frozen (o := off + 3) hc
  exact ⟨_, by simp [go_sem, Try.underlying25, c0, f0, c1, f1, c2, f2, c3, f3], (((((Put.refl hc).set (off) (.int .i64 n0) rfl).set (off + 1) (.int .i64 n1) rfl).set (off + 2) (.int .i64 n2) rfl).set (off + 3) (.int .i64 n3) e)⟩
theorem rd36 {off : Nat} {cs : List Value} {v0 v1 v2 : Value} (e0 : cs[off]? = some v0) (e1 : cs[off + 1]? = some v1) (e2 : cs[off + 2]? = some v2) (b : Nat) (w : World) (h : ∀ q x, q < 3 → cs[off + q]? = some x → w.cell? ⟨b, off + q, none⟩ = some x) : (Instr.loadAt 36 (.pointer (some ⟨b, off, none⟩))).run Try.prog w = .ok (.agg #[v0, v1, v2]) w := by
  have c0 := h 0 v0 (by omega) e0
  have c1 := h 1 v1 (by omega) e1
  have c2 := h 2 v2 (by omega) e2
  simp only [Nat.add_zero] at c0
  simp [go_sem, Try.underlying36, c0, c1, c2]
theorem le36 {g : Nat → Value} {v0 v1 v2 : Value} (e0 : g 0 = v0) (e1 : g 1 = v1) (e2 : g 2 = v2) (b off : Nat) (w : World) (h : ∀ p, p < 3 → w.cell? ⟨b, off + p, none⟩ = some (g p)) : (Instr.loadAt 36 (.pointer (some ⟨b, off, none⟩))).run Try.prog w = .ok (.agg #[v0, v1, v2]) w := by
  have c0 := h 0 (by omega)
  have c1 := h 1 (by omega)
  have c2 := h 2 (by omega)
  subst e0 e1 e2
  simp only [Nat.add_zero] at c0
  simp [go_sem, Try.underlying36, c0, c1, c2]
theorem st36 {b off T0 : Nat} {cs cs' : List Value} {u0 u1 u2 : Value} {n0 : Int} {n1 : Int} {n2 : Int} (e0 : cs[off]? = some u0) (e1 : cs[off + 1]? = some u1) (e2 : cs[off + 2]? = some u2) (e : (((cs.set (off) (.int .i64 n0)).set (off + 1) (.int .i64 n1)).set (off + 2) (.int .i64 n2)) = cs') {w : World} (hc : w.heap[b]? = some (.cells cs.toArray T0 (0, 0))) : ∃ w', (Instr.storeAt 36 (.pointer (some ⟨b, off, none⟩)) (.agg #[.int .i64 n0, .int .i64 n1, .int .i64 n2])).run Try.prog w = .ok () w' ∧ Put w w' b (.cells cs'.toArray T0 (0, 0)) := by
  have c0 := own_cell hc e0
  have f0 := own_frozen (o := off) hc
  have c1 := own_cell hc e1
  have f1 := own_frozen (o := off + 1) hc
  have c2 := own_cell hc e2
  have f2 := own_frozen (o := off + 2) hc
  exact ⟨_, by simp [go_sem, Try.underlying36, c0, f0, c1, f1, c2, f2], ((((Put.refl hc).set (off) (.int .i64 n0) rfl).set (off + 1) (.int .i64 n1) rfl).set (off + 2) (.int .i64 n2) e)⟩
theorem rd37 {off : Nat} {cs : List Value} {v0 : Value} (e0 : cs[off]? = some v0) (b : Nat) (w : World) (h : ∀ q x, q < 1 → cs[off + q]? = some x → w.cell? ⟨b, off + q, none⟩ = some x) : (Instr.loadAt 37 (.pointer (some ⟨b, off, none⟩))).run Try.prog w = .ok v0 w := by
  have c0 := h 0 v0 (by omega) e0
  simp only [Nat.add_zero] at c0
  simp [go_sem, c0]
theorem le37 {g : Nat → Value} {v0 : Value} (e0 : g 0 = v0) (b off : Nat) (w : World) (h : ∀ p, p < 1 → w.cell? ⟨b, off + p, none⟩ = some (g p)) : (Instr.loadAt 37 (.pointer (some ⟨b, off, none⟩))).run Try.prog w = .ok v0 w := by
  have c0 := h 0 (by omega)
  subst e0
  simp only [Nat.add_zero] at c0
  simp [go_sem, c0]
theorem st37 {b off T0 : Nat} {cs cs' : List Value} {u0 : Value} {n0 : Int} (e0 : cs[off]? = some u0) (e : (cs.set (off) (.int .u64 n0)) = cs') {w : World} (hc : w.heap[b]? = some (.cells cs.toArray T0 (0, 0))) : ∃ w', (Instr.storeAt 37 (.pointer (some ⟨b, off, none⟩)) (.int .u64 n0)).run Try.prog w = .ok () w' ∧ Put w w' b (.cells cs'.toArray T0 (0, 0)) := by
  have c0 := own_cell hc e0
  have f0 := own_frozen (o := off) hc
  exact ⟨_, by simp [go_sem, c0, f0], ((Put.refl hc).set (off) (.int .u64 n0) e)⟩
theorem rd39 {off : Nat} {cs : List Value} {v0 v1 : Value} (e0 : cs[off]? = some v0) (e1 : cs[off + 1]? = some v1) (b : Nat) (w : World) (h : ∀ q x, q < 2 → cs[off + q]? = some x → w.cell? ⟨b, off + q, none⟩ = some x) : (Instr.loadAt 39 (.pointer (some ⟨b, off, none⟩))).run Try.prog w = .ok (.agg #[v0, v1]) w := by
  have c0 := h 0 v0 (by omega) e0
  have c1 := h 1 v1 (by omega) e1
  simp only [Nat.add_zero] at c0
  simp [go_sem, Try.underlying39, c0, c1]
theorem le39 {g : Nat → Value} {v0 v1 : Value} (e0 : g 0 = v0) (e1 : g 1 = v1) (b off : Nat) (w : World) (h : ∀ p, p < 2 → w.cell? ⟨b, off + p, none⟩ = some (g p)) : (Instr.loadAt 39 (.pointer (some ⟨b, off, none⟩))).run Try.prog w = .ok (.agg #[v0, v1]) w := by
  have c0 := h 0 (by omega)
  have c1 := h 1 (by omega)
  subst e0 e1
  simp only [Nat.add_zero] at c0
  simp [go_sem, Try.underlying39, c0, c1]
theorem st39 {b off T0 : Nat} {cs cs' : List Value} {u0 u1 : Value} {n0 : Int} {n1 : Int} (e0 : cs[off]? = some u0) (e1 : cs[off + 1]? = some u1) (e : ((cs.set (off) (.int .i64 n0)).set (off + 1) (.int .u64 n1)) = cs') {w : World} (hc : w.heap[b]? = some (.cells cs.toArray T0 (0, 0))) : ∃ w', (Instr.storeAt 39 (.pointer (some ⟨b, off, none⟩)) (.agg #[.int .i64 n0, .int .u64 n1])).run Try.prog w = .ok () w' ∧ Put w w' b (.cells cs'.toArray T0 (0, 0)) := by
  have c0 := own_cell hc e0
  have f0 := own_frozen (o := off) hc
  have c1 := own_cell hc e1
  have f1 := own_frozen (o := off + 1) hc
  exact ⟨_, by simp [go_sem, Try.underlying39, c0, f0, c1, f1], (((Put.refl hc).set (off) (.int .i64 n0) rfl).set (off + 1) (.int .u64 n1) e)⟩
theorem rd44 {off : Nat} {cs : List Value} {v0 : Value} (e0 : cs[off]? = some v0) (b : Nat) (w : World) (h : ∀ q x, q < 1 → cs[off + q]? = some x → w.cell? ⟨b, off + q, none⟩ = some x) : (Instr.loadAt 44 (.pointer (some ⟨b, off, none⟩))).run Try.prog w = .ok v0 w := by
  have c0 := h 0 v0 (by omega) e0
  simp only [Nat.add_zero] at c0
  simp [go_sem, c0]
theorem le44 {g : Nat → Value} {v0 : Value} (e0 : g 0 = v0) (b off : Nat) (w : World) (h : ∀ p, p < 1 → w.cell? ⟨b, off + p, none⟩ = some (g p)) : (Instr.loadAt 44 (.pointer (some ⟨b, off, none⟩))).run Try.prog w = .ok v0 w := by
  have c0 := h 0 (by omega)
  subst e0
  simp only [Nat.add_zero] at c0
  simp [go_sem, c0]
theorem rd46 {off : Nat} {cs : List Value} {v0 v1 : Value} (e0 : cs[off]? = some v0) (e1 : cs[off + 1]? = some v1) (b : Nat) (w : World) (h : ∀ q x, q < 2 → cs[off + q]? = some x → w.cell? ⟨b, off + q, none⟩ = some x) : (Instr.loadAt 46 (.pointer (some ⟨b, off, none⟩))).run Try.prog w = .ok (.agg #[v0, v1]) w := by
  have c0 := h 0 v0 (by omega) e0
  have c1 := h 1 v1 (by omega) e1
  simp only [Nat.add_zero] at c0
  simp [go_sem, Try.underlying46, c0, c1]
theorem le46 {g : Nat → Value} {v0 v1 : Value} (e0 : g 0 = v0) (e1 : g 1 = v1) (b off : Nat) (w : World) (h : ∀ p, p < 2 → w.cell? ⟨b, off + p, none⟩ = some (g p)) : (Instr.loadAt 46 (.pointer (some ⟨b, off, none⟩))).run Try.prog w = .ok (.agg #[v0, v1]) w := by
  have c0 := h 0 (by omega)
  have c1 := h 1 (by omega)
  subst e0 e1
  simp only [Nat.add_zero] at c0
  simp [go_sem, Try.underlying46, c0, c1]
theorem st46 {b off T0 : Nat} {cs cs' : List Value} {u0 u1 : Value} {n0 : Bool} {n1 : Option Addr} {l1 k1 : Nat} (e0 : cs[off]? = some u0) (e1 : cs[off + 1]? = some u1) (e : ((cs.set (off) (.bool n0)).set (off + 1) (.slice n1 l1 k1)) = cs') {w : World} (hc : w.heap[b]? = some (.cells cs.toArray T0 (0, 0))) : ∃ w', (Instr.storeAt 46 (.pointer (some ⟨b, off, none⟩)) (.agg #[.bool n0, .slice n1 l1 k1])).run Try.prog w = .ok () w' ∧ Put w w' b (.cells cs'.toArray T0 (0, 0)) := by
  have c0 := own_cell hc e0
  have f0 := own_frozen (o := off) hc
  have c1 := own_cell hc e1
  have f1 := own_frozen (o := off + 1) hc
  exact ⟨_, by simp [go_sem, Try.underlying46, c0, f0, c1, f1], (((Put.refl hc).set (off) (.bool n0) rfl).set (off + 1) (.slice n1 l1 k1) e)⟩
theorem rd55 {off : Nat} {cs : List Value} {v0 : Value} (e0 : cs[off]? = some v0) (b : Nat) (w : World) (h : ∀ q x, q < 1 → cs[off + q]? = some x → w.cell? ⟨b, off + q, none⟩ = some x) : (Instr.loadAt 55 (.pointer (some ⟨b, off, none⟩))).run Try.prog w = .ok v0 w := by
  have c0 := h 0 v0 (by omega) e0
  simp only [Nat.add_zero] at c0
  simp [go_sem, c0]
theorem le55 {g : Nat → Value} {v0 : Value} (e0 : g 0 = v0) (b off : Nat) (w : World) (h : ∀ p, p < 1 → w.cell? ⟨b, off + p, none⟩ = some (g p)) : (Instr.loadAt 55 (.pointer (some ⟨b, off, none⟩))).run Try.prog w = .ok v0 w := by
  have c0 := h 0 (by omega)
  subst e0
  simp only [Nat.add_zero] at c0
  simp [go_sem, c0]
theorem st55 {b off T0 : Nat} {cs cs' : List Value} {u0 : Value} {n0 : Option Addr} {l0 k0 : Nat} (e0 : cs[off]? = some u0) (e : (cs.set (off) (.slice n0 l0 k0)) = cs') {w : World} (hc : w.heap[b]? = some (.cells cs.toArray T0 (0, 0))) : ∃ w', (Instr.storeAt 55 (.pointer (some ⟨b, off, none⟩)) (.slice n0 l0 k0)).run Try.prog w = .ok () w' ∧ Put w w' b (.cells cs'.toArray T0 (0, 0)) := by
  have c0 := own_cell hc e0
  have f0 := own_frozen (o := off) hc
  exact ⟨_, by simp [go_sem, c0, f0], ((Put.refl hc).set (off) (.slice n0 l0 k0) e)⟩
theorem rd59 {off : Nat} {cs : List Value} {v0 v1 v2 v3 v4 v5 v6 v7 v8 v9 v10 v11 v12 v13 : Value} (e0 : cs[off]? = some v0) (e1 : cs[off + 1]? = some v1) (e2 : cs[off + 2]? = some v2) (e3 : cs[off + 3]? = some v3) (e4 : cs[off + 4]? = some v4) (e5 : cs[off + 5]? = some v5) (e6 : cs[off + 6]? = some v6) (e7 : cs[off + 7]? = some v7) (e8 : cs[off + 8]? = some v8) (e9 : cs[off + 9]? = some v9) (e10 : cs[off + 10]? = some v10) (e11 : cs[off + 11]? = some v11) (e12 : cs[off + 12]? = some v12) (e13 : cs[off + 13]? = some v13) (b : Nat) (w : World) (h : ∀ q x, q < 14 → cs[off + q]? = some x → w.cell? ⟨b, off + q, none⟩ = some x) : (Instr.loadAt 59 (.pointer (some ⟨b, off, none⟩))).run Try.prog w = .ok (.agg #[v0, v1, v2, v3, v4, v5, v6, v7, v8, v9, v10, v11, v12, v13]) w := by
  have c0 := h 0 v0 (by omega) e0
  have c1 := h 1 v1 (by omega) e1
  have c2 := h 2 v2 (by omega) e2
  have c3 := h 3 v3 (by omega) e3
  have c4 := h 4 v4 (by omega) e4
  have c5 := h 5 v5 (by omega) e5
  have c6 := h 6 v6 (by omega) e6
  have c7 := h 7 v7 (by omega) e7
  have c8 := h 8 v8 (by omega) e8
  have c9 := h 9 v9 (by omega) e9
  have c10 := h 10 v10 (by omega) e10
  have c11 := h 11 v11 (by omega) e11
  have c12 := h 12 v12 (by omega) e12
  have c13 := h 13 v13 (by omega) e13
  simp only [Nat.add_zero] at c0
  simp [go_sem, Try.underlying59, c0, c1, c2, c3, c4, c5, c6, c7, c8, c9, c10, c11, c12, c13]
theorem le59 {g : Nat → Value} {v0 v1 v2 v3 v4 v5 v6 v7 v8 v9 v10 v11 v12 v13 : Value} (e0 : g 0 = v0) (e1 : g 1 = v1) (e2 : g 2 = v2) (e3 : g 3 = v3) (e4 : g 4 = v4) (e5 : g 5 = v5) (e6 : g 6 = v6) (e7 : g 7 = v7) (e8 : g 8 = v8) (e9 : g 9 = v9) (e10 : g 10 = v10) (e11 : g 11 = v11) (e12 : g 12 = v12) (e13 : g 13 = v13) (b off : Nat) (w : World) (h : ∀ p, p < 14 → w.cell? ⟨b, off + p, none⟩ = some (g p)) : (Instr.loadAt 59 (.pointer (some ⟨b, off, none⟩))).run Try.prog w = .ok (.agg #[v0, v1, v2, v3, v4, v5, v6, v7, v8, v9, v10, v11, v12, v13]) w := by
  have c0 := h 0 (by omega)
  have c1 := h 1 (by omega)
  have c2 := h 2 (by omega)
  have c3 := h 3 (by omega)
  have c4 := h 4 (by omega)
  have c5 := h 5 (by omega)
  have c6 := h 6 (by omega)
  have c7 := h 7 (by omega)
  have c8 := h 8 (by omega)
  have c9 := h 9 (by omega)
  have c10 := h 10 (by omega)
  have c11 := h 11 (by omega)
  have c12 := h 12 (by omega)
  have c13 := h 13 (by omega)
  subst e0 e1 e2 e3 e4 e5 e6 e7 e8 e9 e10 e11 e12 e13
  simp only [Nat.add_zero] at c0
  simp [go_sem, Try.underlying59, c0, c1, c2, c3, c4, c5, c6, c7, c8, c9, c10, c11, c12, c13]
theorem st59 {b off T0 : Nat} {cs cs' : List Value} {u0 u1 u2 u3 u4 u5 u6 u7 u8 u9 u10 u11 u12 u13 : Value} {n0 : Int} {n1 : Int} {n2 : Int} {n3 : Int} {n4 : Int} {n5 : Int} {n6 : Int} {n7 : Int} {n8 : Int} {n9 : Int} {n10 : Int} {n11 : Int} {n12 : Int} {n13 : Int} (e0 : cs[off]? = some u0) (e1 : cs[off + 1]? = some u1) (e2 : cs[off + 2]? = some u2) (e3 : cs[off + 3]? = some u3) (e4 : cs[off + 4]? = some u4) (e5 : cs[off + 5]? = some u5) (e6 : cs[off + 6]? = some u6) (e7 : cs[off + 7]? = some u7) (e8 : cs[off + 8]? = some u8) (e9 : cs[off + 9]? = some u9) (e10 : cs[off + 10]? = some u10) (e11 : cs[off + 11]? = some u11) (e12 : cs[off + 12]? = some u12) (e13 : cs[off + 13]? = some u13) (e : ((((((((((((((cs.set (off) (.int .i64 n0)).set (off + 1) (.int .i64 n1)).set (off + 2) (.int .u64 n2)).set (off + 3) (.int .i64 n3)).set (off + 4) (.int .u64 n4)).set (off + 5) (.int .i64 n5)).set (off + 6) (.int .u64 n6)).set (off + 7) (.int .i64 n7)).set (off + 8) (.int .u64 n8)).set (off + 9) (.int .i64 n9)).set (off + 10) (.int .u64 n10)).set (off + 11) (.int .i64 n11)).set (off + 12) (.int .u64 n12)).set (off + 13) (.int .i64 n13)) = cs') {w : World} (hc : w.heap[b]? = some (.cells cs.toArray T0 (0, 0))) : ∃ w', (Instr.storeAt 59 (.pointer (some ⟨b, off, none⟩)) (.agg #[.int .i64 n0, .int .i64 n1, .int .u64 n2, .int .i64 n3, .int .u64 n4, .int .i64 n5, .int .u64 n6, .int .i64 n7, .int .u64 n8, .int .i64 n9, .int .u64 n10, .int .i64 n11, .int .u64 n12, .int .i64 n13])).run Try.prog w = .ok () w' ∧ Put w w' b (.cells cs'.toArray T0 (0, 0)) := by
  have c0 := own_cell hc e0
  have f0 := own_frozen (o := off) hc
  have c1 := own_cell hc e1
  have f1 := own_frozen (o := off + 1) hc
  have c2 := own_cell hc e2
  have f2 := own_frozen (o := off + 2) hc
  have c3 := own_cell hc e3
  have f3 := own_frozen (o := off + 3) hc
  have c4 := own_cell hc e4
  have f4 := own_frozen (o := off + 4) hc
  have c5 := own_cell hc e5
  have f5 := own_frozen (o := off + 5) hc
  have c6 := own_cell hc e6
  have f6 := own_frozen (o := off + 6) hc
  have c7 := own_cell hc e7
  have f7 := own_frozen (o := off + 7) hc
  have c8 := own_cell hc e8
  have f8 := own_frozen (o := off + 8) hc
  have c9 := own_cell hc e9
  have f9 := own_frozen (o := off + 9) hc
  have c10 := own_cell hc e10
  have f10 := own_frozen (o := off + 10) hc
  have c11 := own_cell hc e11
  have f11 := own_frozen (o := off + 11) hc
  have c12 := own_cell hc e12
  have f12 := own_frozen (o := off + 12) hc
  have c13 := own_cell hc e13
  have f13 := own_frozen (o := off + 13) hc
  exact ⟨_, by simp [go_sem, Try.underlying59, c0, f0, c1, f1, c2, f2, c3, f3, c4, f4, c5, f5, c6, f6, c7, f7, c8, f8, c9, f9, c10, f10, c11, f11, c12, f12, c13, f13], (((((((((((((((Put.refl hc).set (off) (.int .i64 n0) rfl).set (off + 1) (.int .i64 n1) rfl).set (off + 2) (.int .u64 n2) rfl).set (off + 3) (.int .i64 n3) rfl).set (off + 4) (.int .u64 n4) rfl).set (off + 5) (.int .i64 n5) rfl).set (off + 6) (.int .u64 n6) rfl).set (off + 7) (.int .i64 n7) rfl).set (off + 8) (.int .u64 n8) rfl).set (off + 9) (.int .i64 n9) rfl).set (off + 10) (.int .u64 n10) rfl).set (off + 11) (.int .i64 n11) rfl).set (off + 12) (.int .u64 n12) rfl).set (off + 13) (.int .i64 n13) e)⟩
theorem rd96 {off : Nat} {cs : List Value} {v0 v1 : Value} (e0 : cs[off]? = some v0) (e1 : cs[off + 1]? = some v1) (b : Nat) (w : World) (h : ∀ q x, q < 2 → cs[off + q]? = some x → w.cell? ⟨b, off + q, none⟩ = some x) : (Instr.loadAt 96 (.pointer (some ⟨b, off, none⟩))).run Try.prog w = .ok (.agg #[v0, v1]) w := by
  have c0 := h 0 v0 (by omega) e0
  have c1 := h 1 v1 (by omega) e1
  simp only [Nat.add_zero] at c0
  simp [go_sem, Try.underlying96, c0, c1]
theorem le96 {g : Nat → Value} {v0 v1 : Value} (e0 : g 0 = v0) (e1 : g 1 = v1) (b off : Nat) (w : World) (h : ∀ p, p < 2 → w.cell? ⟨b, off + p, none⟩ = some (g p)) : (Instr.loadAt 96 (.pointer (some ⟨b, off, none⟩))).run Try.prog w = .ok (.agg #[v0, v1]) w := by
  have c0 := h 0 (by omega)
  have c1 := h 1 (by omega)
  subst e0 e1
  simp only [Nat.add_zero] at c0
  simp [go_sem, Try.underlying96, c0, c1]
theorem st96 {b off T0 : Nat} {cs cs' : List Value} {u0 u1 : Value} {n0 : Int} {n1 : Int} (e0 : cs[off]? = some u0) (e1 : cs[off + 1]? = some u1) (e : ((cs.set (off) (.int .u64 n0)).set (off + 1) (.int .u64 n1)) = cs') {w : World} (hc : w.heap[b]? = some (.cells cs.toArray T0 (0, 0))) : ∃ w', (Instr.storeAt 96 (.pointer (some ⟨b, off, none⟩)) (.agg #[.int .u64 n0, .int .u64 n1])).run Try.prog w = .ok () w' ∧ Put w w' b (.cells cs'.toArray T0 (0, 0)) := by
  have c0 := own_cell hc e0
  have f0 := own_frozen (o := off) hc
  have c1 := own_cell hc e1
  have f1 := own_frozen (o := off + 1) hc
  exact ⟨_, by simp [go_sem, Try.underlying96, c0, f0, c1, f1], (((Put.refl hc).set (off) (.int .u64 n0) rfl).set (off + 1) (.int .u64 n1) e)⟩
theorem sz3 : (Try.prog.info? 3).map (·.size) = some 1 := by kernel_rfl
theorem sz25 : (Try.prog.info? 25).map (·.size) = some 4 := by kernel_rfl
theorem sz53 : (Try.prog.info? 53).map (·.size) = some 4 := by kernel_rfl
theorem sz59 : (Try.prog.info? 59).map (·.size) = some 14 := by kernel_rfl
end Go.Proofs.Ytdfkghpgekmmlaa

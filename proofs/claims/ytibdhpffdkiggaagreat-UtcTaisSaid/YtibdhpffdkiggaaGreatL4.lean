/- how each type is read out of memory and stored (printed by my walk.py) -/
import Derived.Test.YtibdhpffdkiggaaGreatL3
namespace Go.Proofs.YtibdhpffdkiggaaGreat
open Go.RowKit
set_option linter.unusedVariables false
set_option linter.unusedSimpArgs false
attribute [local go_sem] vW vM vL vT2 vT3 vP vI execOp Act.eval hi_zero lo_zero

theorem rd2 {off : Nat} {cs : List Value} {v0 : Value} (e0 : cs[off]? = some v0) (b : Nat) (w : World) (h : ∀ q x, q < 1 → cs[off + q]? = some x → w.cell? ⟨b, off + q, none⟩ = some x) : (Instr.loadAt 2 (.pointer (some ⟨b, off, none⟩))).run Tryz.prog w = .ok v0 w := by
  have c0 := h 0 v0 (by omega) e0
  simp only [Nat.add_zero] at c0
  simp [go_sem, c0]
theorem le2 {g : Nat → Value} {v0 : Value} (e0 : g 0 = v0) (b off : Nat) (w : World) (h : ∀ p, p < 1 → w.cell? ⟨b, off + p, none⟩ = some (g p)) : (Instr.loadAt 2 (.pointer (some ⟨b, off, none⟩))).run Tryz.prog w = .ok v0 w := by
  have c0 := h 0 (by omega)
  subst e0
  simp only [Nat.add_zero] at c0
  simp [go_sem, c0]
theorem rd3 {off : Nat} {cs : List Value} {v0 : Value} (e0 : cs[off]? = some v0) (b : Nat) (w : World) (h : ∀ q x, q < 1 → cs[off + q]? = some x → w.cell? ⟨b, off + q, none⟩ = some x) : (Instr.loadAt 3 (.pointer (some ⟨b, off, none⟩))).run Tryz.prog w = .ok v0 w := by
  have c0 := h 0 v0 (by omega) e0
  simp only [Nat.add_zero] at c0
  simp [go_sem, c0]
theorem le3 {g : Nat → Value} {v0 : Value} (e0 : g 0 = v0) (b off : Nat) (w : World) (h : ∀ p, p < 1 → w.cell? ⟨b, off + p, none⟩ = some (g p)) : (Instr.loadAt 3 (.pointer (some ⟨b, off, none⟩))).run Tryz.prog w = .ok v0 w := by
  have c0 := h 0 (by omega)
  subst e0
  simp only [Nat.add_zero] at c0
  simp [go_sem, c0]
theorem st3 {b off T0 : Nat} {cs cs' : List Value} {u0 : Value} {n0 : Int} (e0 : cs[off]? = some u0) (e : (cs.set (off) (.int .i64 n0)) = cs') {w : World} (hc : w.heap[b]? = some (.cells cs.toArray T0 (0, 0))) : ∃ w', (Instr.storeAt 3 (.pointer (some ⟨b, off, none⟩)) (.int .i64 n0)).run Tryz.prog w = .ok () w' ∧ Put w w' b (.cells cs'.toArray T0 (0, 0)) := by
  have c0 := own_cell hc e0
  have f0 := own_frozen (o := off) hc
  exact ⟨_, by simp [go_sem, c0, f0], ((Put.refl hc).set (off) (.int .i64 n0) e)⟩
theorem rd4 {off : Nat} {cs : List Value} {v0 : Value} (e0 : cs[off]? = some v0) (b : Nat) (w : World) (h : ∀ q x, q < 1 → cs[off + q]? = some x → w.cell? ⟨b, off + q, none⟩ = some x) : (Instr.loadAt 4 (.pointer (some ⟨b, off, none⟩))).run Tryz.prog w = .ok v0 w := by
  have c0 := h 0 v0 (by omega) e0
  simp only [Nat.add_zero] at c0
  simp [go_sem, c0]
theorem le4 {g : Nat → Value} {v0 : Value} (e0 : g 0 = v0) (b off : Nat) (w : World) (h : ∀ p, p < 1 → w.cell? ⟨b, off + p, none⟩ = some (g p)) : (Instr.loadAt 4 (.pointer (some ⟨b, off, none⟩))).run Tryz.prog w = .ok v0 w := by
  have c0 := h 0 (by omega)
  subst e0
  simp only [Nat.add_zero] at c0
  simp [go_sem, c0]
theorem rd22 {off : Nat} {cs : List Value} {v0 : Value} (e0 : cs[off]? = some v0) (b : Nat) (w : World) (h : ∀ q x, q < 1 → cs[off + q]? = some x → w.cell? ⟨b, off + q, none⟩ = some x) : (Instr.loadAt 22 (.pointer (some ⟨b, off, none⟩))).run Tryz.prog w = .ok v0 w := by
  have c0 := h 0 v0 (by omega) e0
  simp only [Nat.add_zero] at c0
  simp [go_sem, c0]
theorem le22 {g : Nat → Value} {v0 : Value} (e0 : g 0 = v0) (b off : Nat) (w : World) (h : ∀ p, p < 1 → w.cell? ⟨b, off + p, none⟩ = some (g p)) : (Instr.loadAt 22 (.pointer (some ⟨b, off, none⟩))).run Tryz.prog w = .ok v0 w := by
  have c0 := h 0 (by omega)
  subst e0
  simp only [Nat.add_zero] at c0
  simp [go_sem, c0]
theorem st22 {b off T0 : Nat} {cs cs' : List Value} {u0 : Value} {n0 : Option Addr} {l0 k0 : Nat} (e0 : cs[off]? = some u0) (e : (cs.set (off) (.slice n0 l0 k0)) = cs') {w : World} (hc : w.heap[b]? = some (.cells cs.toArray T0 (0, 0))) : ∃ w', (Instr.storeAt 22 (.pointer (some ⟨b, off, none⟩)) (.slice n0 l0 k0)).run Tryz.prog w = .ok () w' ∧ Put w w' b (.cells cs'.toArray T0 (0, 0)) := by
  have c0 := own_cell hc e0
  have f0 := own_frozen (o := off) hc
  exact ⟨_, by simp [go_sem, c0, f0], ((Put.refl hc).set (off) (.slice n0 l0 k0) e)⟩
theorem rd24 {off : Nat} {cs : List Value} {v0 v1 v2 : Value} (e0 : cs[off]? = some v0) (e1 : cs[off + 1]? = some v1) (e2 : cs[off + 2]? = some v2) (b : Nat) (w : World) (h : ∀ q x, q < 3 → cs[off + q]? = some x → w.cell? ⟨b, off + q, none⟩ = some x) : (Instr.loadAt 24 (.pointer (some ⟨b, off, none⟩))).run Tryz.prog w = .ok (.agg #[v0, v1, v2]) w := by
  have c0 := h 0 v0 (by omega) e0
  have c1 := h 1 v1 (by omega) e1
  have c2 := h 2 v2 (by omega) e2
  simp only [Nat.add_zero] at c0
  simp [go_sem, Tryz.underlying24, c0, c1, c2]
theorem le24 {g : Nat → Value} {v0 v1 v2 : Value} (e0 : g 0 = v0) (e1 : g 1 = v1) (e2 : g 2 = v2) (b off : Nat) (w : World) (h : ∀ p, p < 3 → w.cell? ⟨b, off + p, none⟩ = some (g p)) : (Instr.loadAt 24 (.pointer (some ⟨b, off, none⟩))).run Tryz.prog w = .ok (.agg #[v0, v1, v2]) w := by
  have c0 := h 0 (by omega)
  have c1 := h 1 (by omega)
  have c2 := h 2 (by omega)
  subst e0 e1 e2
  simp only [Nat.add_zero] at c0
  simp [go_sem, Tryz.underlying24, c0, c1, c2]
theorem st24 {b off T0 : Nat} {cs cs' : List Value} {u0 u1 u2 : Value} {n0 : Int} {n1 : Int} {n2 : Option Addr} {l2 k2 : Nat} (e0 : cs[off]? = some u0) (e1 : cs[off + 1]? = some u1) (e2 : cs[off + 2]? = some u2) (e : (((cs.set (off) (.int .i64 n0)).set (off + 1) (.int .i64 n1)).set (off + 2) (.slice n2 l2 k2)) = cs') {w : World} (hc : w.heap[b]? = some (.cells cs.toArray T0 (0, 0))) : ∃ w', (Instr.storeAt 24 (.pointer (some ⟨b, off, none⟩)) (.agg #[.int .i64 n0, .int .i64 n1, .slice n2 l2 k2])).run Tryz.prog w = .ok () w' ∧ Put w w' b (.cells cs'.toArray T0 (0, 0)) := by
  have c0 := own_cell hc e0
  have f0 := own_frozen (o := off) hc
  have c1 := own_cell hc e1
  have f1 := own_frozen (o := off + 1) hc
  have c2 := own_cell hc e2
  have f2 := own_frozen (o := off + 2) hc
  exact ⟨_, by simp [go_sem, Tryz.underlying24, c0, f0, c1, f1, c2, f2], ((((Put.refl hc).set (off) (.int .i64 n0) rfl).set (off + 1) (.int .i64 n1) rfl).set (off + 2) (.slice n2 l2 k2) e)⟩
theorem rd26 {off : Nat} {cs : List Value} {v0 v1 v2 : Value} (e0 : cs[off]? = some v0) (e1 : cs[off + 1]? = some v1) (e2 : cs[off + 2]? = some v2) (b : Nat) (w : World) (h : ∀ q x, q < 3 → cs[off + q]? = some x → w.cell? ⟨b, off + q, none⟩ = some x) : (Instr.loadAt 26 (.pointer (some ⟨b, off, none⟩))).run Tryz.prog w = .ok (.agg #[v0, v1, v2]) w := by
  have c0 := h 0 v0 (by omega) e0
  have c1 := h 1 v1 (by omega) e1
  have c2 := h 2 v2 (by omega) e2
  simp only [Nat.add_zero] at c0
  simp [go_sem, Tryz.underlying26, c0, c1, c2]
theorem le26 {g : Nat → Value} {v0 v1 v2 : Value} (e0 : g 0 = v0) (e1 : g 1 = v1) (e2 : g 2 = v2) (b off : Nat) (w : World) (h : ∀ p, p < 3 → w.cell? ⟨b, off + p, none⟩ = some (g p)) : (Instr.loadAt 26 (.pointer (some ⟨b, off, none⟩))).run Tryz.prog w = .ok (.agg #[v0, v1, v2]) w := by
  have c0 := h 0 (by omega)
  have c1 := h 1 (by omega)
  have c2 := h 2 (by omega)
  subst e0 e1 e2
  simp only [Nat.add_zero] at c0
  simp [go_sem, Tryz.underlying26, c0, c1, c2]
theorem st26 {b off T0 : Nat} {cs cs' : List Value} {u0 u1 u2 : Value} {n0 : Int} {n1 : Int} {n2 : Int} (e0 : cs[off]? = some u0) (e1 : cs[off + 1]? = some u1) (e2 : cs[off + 2]? = some u2) (e : (((cs.set (off) (.int .i64 n0)).set (off + 1) (.int .i64 n1)).set (off + 2) (.int .i64 n2)) = cs') {w : World} (hc : w.heap[b]? = some (.cells cs.toArray T0 (0, 0))) : ∃ w', (Instr.storeAt 26 (.pointer (some ⟨b, off, none⟩)) (.agg #[.int .i64 n0, .int .i64 n1, .int .i64 n2])).run Tryz.prog w = .ok () w' ∧ Put w w' b (.cells cs'.toArray T0 (0, 0)) := by
  have c0 := own_cell hc e0
  have f0 := own_frozen (o := off) hc
  have c1 := own_cell hc e1
  have f1 := own_frozen (o := off + 1) hc
  have c2 := own_cell hc e2
  have f2 := own_frozen (o := off + 2) hc
  exact ⟨_, by simp [go_sem, Tryz.underlying26, c0, f0, c1, f1, c2, f2], ((((Put.refl hc).set (off) (.int .i64 n0) rfl).set (off + 1) (.int .i64 n1) rfl).set (off + 2) (.int .i64 n2) e)⟩
theorem rd32 {off : Nat} {cs : List Value} {v0 : Value} (e0 : cs[off]? = some v0) (b : Nat) (w : World) (h : ∀ q x, q < 1 → cs[off + q]? = some x → w.cell? ⟨b, off + q, none⟩ = some x) : (Instr.loadAt 32 (.pointer (some ⟨b, off, none⟩))).run Tryz.prog w = .ok v0 w := by
  have c0 := h 0 v0 (by omega) e0
  simp only [Nat.add_zero] at c0
  simp [go_sem, c0]
theorem le32 {g : Nat → Value} {v0 : Value} (e0 : g 0 = v0) (b off : Nat) (w : World) (h : ∀ p, p < 1 → w.cell? ⟨b, off + p, none⟩ = some (g p)) : (Instr.loadAt 32 (.pointer (some ⟨b, off, none⟩))).run Tryz.prog w = .ok v0 w := by
  have c0 := h 0 (by omega)
  subst e0
  simp only [Nat.add_zero] at c0
  simp [go_sem, c0]
theorem st32 {b off T0 : Nat} {cs cs' : List Value} {u0 : Value} {n0 : Int} (e0 : cs[off]? = some u0) (e : (cs.set (off) (.int .u64 n0)) = cs') {w : World} (hc : w.heap[b]? = some (.cells cs.toArray T0 (0, 0))) : ∃ w', (Instr.storeAt 32 (.pointer (some ⟨b, off, none⟩)) (.int .u64 n0)).run Tryz.prog w = .ok () w' ∧ Put w w' b (.cells cs'.toArray T0 (0, 0)) := by
  have c0 := own_cell hc e0
  have f0 := own_frozen (o := off) hc
  exact ⟨_, by simp [go_sem, c0, f0], ((Put.refl hc).set (off) (.int .u64 n0) e)⟩
theorem rd34 {off : Nat} {cs : List Value} {v0 v1 : Value} (e0 : cs[off]? = some v0) (e1 : cs[off + 1]? = some v1) (b : Nat) (w : World) (h : ∀ q x, q < 2 → cs[off + q]? = some x → w.cell? ⟨b, off + q, none⟩ = some x) : (Instr.loadAt 34 (.pointer (some ⟨b, off, none⟩))).run Tryz.prog w = .ok (.agg #[v0, v1]) w := by
  have c0 := h 0 v0 (by omega) e0
  have c1 := h 1 v1 (by omega) e1
  simp only [Nat.add_zero] at c0
  simp [go_sem, Tryz.underlying34, c0, c1]
theorem le34 {g : Nat → Value} {v0 v1 : Value} (e0 : g 0 = v0) (e1 : g 1 = v1) (b off : Nat) (w : World) (h : ∀ p, p < 2 → w.cell? ⟨b, off + p, none⟩ = some (g p)) : (Instr.loadAt 34 (.pointer (some ⟨b, off, none⟩))).run Tryz.prog w = .ok (.agg #[v0, v1]) w := by
  have c0 := h 0 (by omega)
  have c1 := h 1 (by omega)
  subst e0 e1
  simp only [Nat.add_zero] at c0
  simp [go_sem, Tryz.underlying34, c0, c1]
theorem st34 {b off T0 : Nat} {cs cs' : List Value} {u0 u1 : Value} {n0 : Int} {n1 : Int} (e0 : cs[off]? = some u0) (e1 : cs[off + 1]? = some u1) (e : ((cs.set (off) (.int .i64 n0)).set (off + 1) (.int .u64 n1)) = cs') {w : World} (hc : w.heap[b]? = some (.cells cs.toArray T0 (0, 0))) : ∃ w', (Instr.storeAt 34 (.pointer (some ⟨b, off, none⟩)) (.agg #[.int .i64 n0, .int .u64 n1])).run Tryz.prog w = .ok () w' ∧ Put w w' b (.cells cs'.toArray T0 (0, 0)) := by
  have c0 := own_cell hc e0
  have f0 := own_frozen (o := off) hc
  have c1 := own_cell hc e1
  have f1 := own_frozen (o := off + 1) hc
  exact ⟨_, by simp [go_sem, Tryz.underlying34, c0, f0, c1, f1], (((Put.refl hc).set (off) (.int .i64 n0) rfl).set (off + 1) (.int .u64 n1) e)⟩
theorem rd40 {off : Nat} {cs : List Value} {v0 : Value} (e0 : cs[off]? = some v0) (b : Nat) (w : World) (h : ∀ q x, q < 1 → cs[off + q]? = some x → w.cell? ⟨b, off + q, none⟩ = some x) : (Instr.loadAt 40 (.pointer (some ⟨b, off, none⟩))).run Tryz.prog w = .ok v0 w := by
  have c0 := h 0 v0 (by omega) e0
  simp only [Nat.add_zero] at c0
  simp [go_sem, c0]
theorem le40 {g : Nat → Value} {v0 : Value} (e0 : g 0 = v0) (b off : Nat) (w : World) (h : ∀ p, p < 1 → w.cell? ⟨b, off + p, none⟩ = some (g p)) : (Instr.loadAt 40 (.pointer (some ⟨b, off, none⟩))).run Tryz.prog w = .ok v0 w := by
  have c0 := h 0 (by omega)
  subst e0
  simp only [Nat.add_zero] at c0
  simp [go_sem, c0]
theorem rd42 {off : Nat} {cs : List Value} {v0 v1 : Value} (e0 : cs[off]? = some v0) (e1 : cs[off + 1]? = some v1) (b : Nat) (w : World) (h : ∀ q x, q < 2 → cs[off + q]? = some x → w.cell? ⟨b, off + q, none⟩ = some x) : (Instr.loadAt 42 (.pointer (some ⟨b, off, none⟩))).run Tryz.prog w = .ok (.agg #[v0, v1]) w := by
  have c0 := h 0 v0 (by omega) e0
  have c1 := h 1 v1 (by omega) e1
  simp only [Nat.add_zero] at c0
  simp [go_sem, Tryz.underlying42, c0, c1]
theorem le42 {g : Nat → Value} {v0 v1 : Value} (e0 : g 0 = v0) (e1 : g 1 = v1) (b off : Nat) (w : World) (h : ∀ p, p < 2 → w.cell? ⟨b, off + p, none⟩ = some (g p)) : (Instr.loadAt 42 (.pointer (some ⟨b, off, none⟩))).run Tryz.prog w = .ok (.agg #[v0, v1]) w := by
  have c0 := h 0 (by omega)
  have c1 := h 1 (by omega)
  subst e0 e1
  simp only [Nat.add_zero] at c0
  simp [go_sem, Tryz.underlying42, c0, c1]
theorem st42 {b off T0 : Nat} {cs cs' : List Value} {u0 u1 : Value} {n0 : Bool} {n1 : Option Addr} {l1 k1 : Nat} (e0 : cs[off]? = some u0) (e1 : cs[off + 1]? = some u1) (e : ((cs.set (off) (.bool n0)).set (off + 1) (.slice n1 l1 k1)) = cs') {w : World} (hc : w.heap[b]? = some (.cells cs.toArray T0 (0, 0))) : ∃ w', (Instr.storeAt 42 (.pointer (some ⟨b, off, none⟩)) (.agg #[.bool n0, .slice n1 l1 k1])).run Tryz.prog w = .ok () w' ∧ Put w w' b (.cells cs'.toArray T0 (0, 0)) := by
  have c0 := own_cell hc e0
  have f0 := own_frozen (o := off) hc
  have c1 := own_cell hc e1
  have f1 := own_frozen (o := off + 1) hc
  exact ⟨_, by simp [go_sem, Tryz.underlying42, c0, f0, c1, f1], (((Put.refl hc).set (off) (.bool n0) rfl).set (off + 1) (.slice n1 l1 k1) e)⟩
theorem rd65 {off : Nat} {cs : List Value} {v0 : Value} (e0 : cs[off]? = some v0) (b : Nat) (w : World) (h : ∀ q x, q < 1 → cs[off + q]? = some x → w.cell? ⟨b, off + q, none⟩ = some x) : (Instr.loadAt 65 (.pointer (some ⟨b, off, none⟩))).run Tryz.prog w = .ok v0 w := by
  have c0 := h 0 v0 (by omega) e0
  simp only [Nat.add_zero] at c0
  simp [go_sem, c0]
theorem le65 {g : Nat → Value} {v0 : Value} (e0 : g 0 = v0) (b off : Nat) (w : World) (h : ∀ p, p < 1 → w.cell? ⟨b, off + p, none⟩ = some (g p)) : (Instr.loadAt 65 (.pointer (some ⟨b, off, none⟩))).run Tryz.prog w = .ok v0 w := by
  have c0 := h 0 (by omega)
  subst e0
  simp only [Nat.add_zero] at c0
  simp [go_sem, c0]
theorem st65 {b off T0 : Nat} {cs cs' : List Value} {u0 : Value} {n0 : Option Addr} {l0 k0 : Nat} (e0 : cs[off]? = some u0) (e : (cs.set (off) (.slice n0 l0 k0)) = cs') {w : World} (hc : w.heap[b]? = some (.cells cs.toArray T0 (0, 0))) : ∃ w', (Instr.storeAt 65 (.pointer (some ⟨b, off, none⟩)) (.slice n0 l0 k0)).run Tryz.prog w = .ok () w' ∧ Put w w' b (.cells cs'.toArray T0 (0, 0)) := by
  have c0 := own_cell hc e0
  have f0 := own_frozen (o := off) hc
  exact ⟨_, by simp [go_sem, c0, f0], ((Put.refl hc).set (off) (.slice n0 l0 k0) e)⟩
theorem rd72 {off : Nat} {cs : List Value} {v0 v1 : Value} (e0 : cs[off]? = some v0) (e1 : cs[off + 1]? = some v1) (b : Nat) (w : World) (h : ∀ q x, q < 2 → cs[off + q]? = some x → w.cell? ⟨b, off + q, none⟩ = some x) : (Instr.loadAt 72 (.pointer (some ⟨b, off, none⟩))).run Tryz.prog w = .ok (.agg #[v0, v1]) w := by
  have c0 := h 0 v0 (by omega) e0
  have c1 := h 1 v1 (by omega) e1
  simp only [Nat.add_zero] at c0
  simp [go_sem, Tryz.underlying72, c0, c1]
theorem le72 {g : Nat → Value} {v0 v1 : Value} (e0 : g 0 = v0) (e1 : g 1 = v1) (b off : Nat) (w : World) (h : ∀ p, p < 2 → w.cell? ⟨b, off + p, none⟩ = some (g p)) : (Instr.loadAt 72 (.pointer (some ⟨b, off, none⟩))).run Tryz.prog w = .ok (.agg #[v0, v1]) w := by
  have c0 := h 0 (by omega)
  have c1 := h 1 (by omega)
  subst e0 e1
  simp only [Nat.add_zero] at c0
  simp [go_sem, Tryz.underlying72, c0, c1]
theorem st72 {b off T0 : Nat} {cs cs' : List Value} {u0 u1 : Value} {n0 : Int} {n1 : Int} (e0 : cs[off]? = some u0) (e1 : cs[off + 1]? = some u1) (e : ((cs.set (off) (.int .i64 n0)).set (off + 1) (.int .i64 n1)) = cs') {w : World} (hc : w.heap[b]? = some (.cells cs.toArray T0 (0, 0))) : ∃ w', (Instr.storeAt 72 (.pointer (some ⟨b, off, none⟩)) (.agg #[.int .i64 n0, .int .i64 n1])).run Tryz.prog w = .ok () w' ∧ Put w w' b (.cells cs'.toArray T0 (0, 0)) := by
  have c0 := own_cell hc e0
  have f0 := own_frozen (o := off) hc
  have c1 := own_cell hc e1
  have f1 := own_frozen (o := off + 1) hc
  exact ⟨_, by simp [go_sem, Tryz.underlying72, c0, f0, c1, f1], (((Put.refl hc).set (off) (.int .i64 n0) rfl).set (off + 1) (.int .i64 n1) e)⟩
theorem rd117 {off : Nat} {cs : List Value} {v0 v1 : Value} (e0 : cs[off]? = some v0) (e1 : cs[off + 1]? = some v1) (b : Nat) (w : World) (h : ∀ q x, q < 2 → cs[off + q]? = some x → w.cell? ⟨b, off + q, none⟩ = some x) : (Instr.loadAt 117 (.pointer (some ⟨b, off, none⟩))).run Tryz.prog w = .ok (.agg #[v0, v1]) w := by
  have c0 := h 0 v0 (by omega) e0
  have c1 := h 1 v1 (by omega) e1
  simp only [Nat.add_zero] at c0
  simp [go_sem, Tryz.underlying117, c0, c1]
theorem le117 {g : Nat → Value} {v0 v1 : Value} (e0 : g 0 = v0) (e1 : g 1 = v1) (b off : Nat) (w : World) (h : ∀ p, p < 2 → w.cell? ⟨b, off + p, none⟩ = some (g p)) : (Instr.loadAt 117 (.pointer (some ⟨b, off, none⟩))).run Tryz.prog w = .ok (.agg #[v0, v1]) w := by
  have c0 := h 0 (by omega)
  have c1 := h 1 (by omega)
  subst e0 e1
  simp only [Nat.add_zero] at c0
  simp [go_sem, Tryz.underlying117, c0, c1]
theorem st117 {b off T0 : Nat} {cs cs' : List Value} {u0 u1 : Value} {n0 : Int} {n1 : Int} (e0 : cs[off]? = some u0) (e1 : cs[off + 1]? = some u1) (e : ((cs.set (off) (.int .u64 n0)).set (off + 1) (.int .u64 n1)) = cs') {w : World} (hc : w.heap[b]? = some (.cells cs.toArray T0 (0, 0))) : ∃ w', (Instr.storeAt 117 (.pointer (some ⟨b, off, none⟩)) (.agg #[.int .u64 n0, .int .u64 n1])).run Tryz.prog w = .ok () w' ∧ Put w w' b (.cells cs'.toArray T0 (0, 0)) := by
  have c0 := own_cell hc e0
  have f0 := own_frozen (o := off) hc
  have c1 := own_cell hc e1
  have f1 := own_frozen (o := off + 1) hc
  exact ⟨_, by simp [go_sem, Tryz.underlying117, c0, f0, c1, f1], (((Put.refl hc).set (off) (.int .u64 n0) rfl).set (off + 1) (.int .u64 n1) e)⟩
theorem sz3 : (Tryz.prog.info? 3).map (·.size) = some 1 := by kernel_rfl
theorem sz72 : (Tryz.prog.info? 72).map (·.size) = some 2 := by kernel_rfl
theorem sz101 : (Tryz.prog.info? 101).map (·.size) = some 3 := by kernel_rfl
end Go.Proofs.YtibdhpffdkiggaaGreat

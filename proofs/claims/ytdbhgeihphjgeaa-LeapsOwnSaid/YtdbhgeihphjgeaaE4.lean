/- Walk of the reference of layer 11: Same, of two tables that read alike. -/
import Derived.Test.YtdbhgeihphjgeaaE3
namespace Go.Proofs.Ytdbhgeihphjgeaa
open Go.RowKit
set_option linter.unusedVariables false
set_option linter.unusedSimpArgs false

set_option maxRecDepth 100000 in
set_option maxHeartbeats 2000000 in
theorem same_yes (v v' : Value) (es : List (Int × Int)) (u x : Int) (w : World) (hv : Ents w w.heap.size v es) (hv' : Ents w w.heap.size v' es) :
    Calls Try.prog 29 #[.agg #[.int .i64 u, .int .i64 x, v], .agg #[.int .i64 u, .int .i64 x, v']] w fun e w' => e = .returned (.bool true) ∧ Below w.heap.size w w' := by
  have hvv := hv
  obtain ⟨A, c, rfl, hc, hc2, hcells⟩ := hvv
  have hvv' := hv'
  obtain ⟨A', c', rfl, hc', hc2', hcells'⟩ := hvv'
  obtain ⟨w1, hw1, q0, q1, q2, hE1, hB1, s1⟩ := tbox w u x _ es hv
  have hE1' := (hv'.below hB1).mono hB1.size
  obtain ⟨w2, hw2, p0, p1, p2, hE2, hB2, s2⟩ := tbox w1 u x _ es hE1'
  have hE3 := (hE1.below hB2).mono hB2.size
  rw [s1] at p0 p1 p2 s2
  have q0' := (hB2.cell (p := ⟨w.heap.size, 0, none⟩) (by simp; omega)).trans q0
  have q1' := (hB2.cell (p := ⟨w.heap.size, 1, none⟩) (by simp; omega)).trans q1
  have q2' := (hB2.cell (p := ⟨w.heap.size, 2, none⟩) (by simp; omega)).trans q2
  have hB := below_to hB1 hB2
  obtain ⟨n, hn⟩ : ∃ n, n = es.length := ⟨_, rfl⟩
  rw [← hn] at hc hcells hc' hcells' hw1 hw2 q2' p2 hE2 hE3 ⊢
  rw [hw1] at hw2
  have HN := Lib.hid hn
  have HE2 := Lib.hid hE2
  have HE3 := Lib.hid hE3
  have HB := Lib.hid hB
  clear hn hv hv' hE1 hB1 hE1' hB2 hE2 hE3 hB q0 q1 q2 hw1 s1
  go_enter Try.func29, Try.ntmps29
  go_wp2
  rw [← hw2]
  clear hw2
  go_loopw [5] (fun i wr => ∃ k : Nat, k ≤ n ∧ i = .int .i64 k ∧ Below w2.heap.size w2 wr) (fun i _ => n - (intOf i).toNat)
  case atStart => exact ⟨0, Nat.zero_le _, rfl, Below.refl _ _⟩
  case round =>
    obtain ⟨k, hk, rfl, hbw⟩ := hrel
    have hsz := hbw.size
    have r2 := (hbw.cell (p := ⟨w.heap.size, 2, none⟩) (by simp; omega)).trans q2'
    have t2 := (hbw.cell (p := ⟨w.heap.size + 1, 2, none⟩) (by simp; omega)).trans p2
    by_cases hlt : k < n
    · obtain ⟨b, off, rfl, hb, hcell⟩ := hcells (by omega)
      obtain ⟨b', off', rfl, hb', hcell'⟩ := hcells' (by omega)
      obtain ⟨c0, c1⟩ := (HE3.out.below hbw).get HN.out k hlt
      obtain ⟨d0, d1⟩ := (HE2.out.below hbw).get HN.out k hlt
      obtain ⟨⟨a, o⟩, he⟩ : ∃ e, e = es.getD k (0, 0) := ⟨_, rfl⟩
      rw [← he] at c0 c1 d0 d1
      have HBW := Lib.hid hbw
      have i1 : (0 : Int) ≤ (k : Int) := by omega
      have i3 : (k : Int) < (n : Int) := by omega
      clear he hcell hcell' hcells hcells' hbw
      go_wp2
      go_quiet (fail)
      go_wp2
      go_roundw
      case rel => exact ⟨k + 1, by omega, by go_num, Below.trans HBW.out (⟨rfl, rfl, rfl, Nat.le_refl _, fun _ _ => rfl⟩)⟩
      case measure => simp [intOf]; omega
    · obtain rfl : k = n := by omega
      have HBW := Lib.hid (below_to HB.out hbw)
      clear hbw hcells hcells'
      go_wp2
      go_ret
      exact ⟨rfl, HBW.out⟩
end Go.Proofs.Ytdbhgeihphjgeaa

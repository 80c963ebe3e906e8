/- Walks of the laws of layer 12: what each law's Go text answers. -/
import Derived.Test.YtdbhgeihphjgeaaE4
namespace Go.Proofs.Ytdbhgeihphjgeaa
open Go.RowKit
set_option linter.unusedVariables false
set_option linter.unusedSimpArgs false

theorem below_gr {w W W' : World} {g : Nat} (h : Below w.heap.size w W) (hg : W.grownBy W' (some g)) (hge : w.heap.size ≤ g) : Below w.heap.size w W' :=
  h.grown hg h.size (fun k hk => by simp only [Option.some.injEq] at hk; omega)

/-- the table of 'answers' -/
def ansT : List (Int × Int) := [(2272060800, 10), (2287785600, 11)]
theorem ansT_ok : okT 0 0 ansT = true := by decide +kernel
theorem ansT_64 : ∀ i, I64 (ansT.getD i (0, 0)).1 ∧ I64 (ansT.getD i (0, 0)).2 := by
  intro i
  match i with
  | 0 => simp [ansT, I64]
  | 1 => simp [ansT, I64]
  | i + 2 => simp [ansT, I64]
theorem ansT_row : (ansT.flatMap entC).toArray = #[.int .i64 2272060800, .int .i64 10, .int .i64 2287785600, .int .i64 11] := rfl

set_option maxRecDepth 100000 in
set_option maxHeartbeats 2000000 in
theorem answers12_any (w : World) : Calls Try.prog 21 #[] w fun e w' => e = .returned (.bool true) ∧ Below w.heap.size w w' := by
  have hb0 : Below w.heap.size w (w.alloc (.cells #[.int .i64 2272060800, .int .i64 10, .int .i64 2287785600, .int .i64 11] 43)) := (by repeat (first | exact Below.refl _ _ | assumption | refine below_al ?_ _ | refine below_dr ?_ | refine below_drN ?_ _ | refine below_set ?_ (by simp; try omega) _ | (refine below_to ?_ (by assumption))))
  have hbk : Blk (w.alloc (.cells #[.int .i64 2272060800, .int .i64 10, .int .i64 2287785600, .int .i64 11] 43)) w.heap.size 43 (ansT.flatMap entC).toArray := Blk.new w _ _
  have hE : Ents (w.alloc (.cells #[.int .i64 2272060800, .int .i64 10, .int .i64 2287785600, .int .i64 11] 43)) (w.alloc (.cells #[.int .i64 2272060800, .int .i64 10, .int .i64 2287785600, .int .i64 11] 43)).heap.size (.slice (some ⟨w.heap.size, 0, none⟩) 2 2) ansT := hbk.ents (c := 2) (by decide) (by decide) (by simp)
  have hn := new_yes _ ansT 0 0 _ hE (by simp [I64]) (by simp [I64]) ansT_64 ansT_ok
  have HN := Lib.hid hn
  have HB0 := Lib.hid hb0
  clear hn hE hbk hb0
  go_enter Try.func21, Try.ntmps21
  go_wp2_with fail
  refine HN.out.mono ?_
  rintro e w1 ⟨g, rfl, hL1, hg, hb1⟩
  have hgw : w.heap.size ≤ g := by simp at hg; omega
  have HB1 := Lib.hid (below_to HB0.out hb1)
  have HL1 := Lib.hid (length_any g 0 0 0 41498 ansT w1 hL1)
  clear hb1 hL1 hg
  go_wp2_with fail
  refine HL1.out.mono ?_
  rintro e w2 ⟨rfl, hL2, hg2⟩
  rw [show lenV ansT 41498 = 86401 from by decide +kernel, show lenE ansT 41498 = 0 from by decide +kernel]
  have HB2 := Lib.hid (below_gr HB1.out hg2 hgw)
  have HL2 := Lib.hid (offset_any g 0 0 _ 41499 ansT w2 hL2)
  clear hL2 hg2
  go_wp2_with fail
  refine HL2.out.mono ?_
  rintro e w3 ⟨rfl, hL3, hg3⟩
  rw [show offV ansT 41499 = 11 from by decide +kernel, show offE ansT 41499 = 0 from by decide +kernel]
  have HB3 := Lib.hid (below_gr HB2.out hg3 hgw)
  have HL3 := Lib.hid (first_any g 0 0 _ ansT w3 hL3)
  clear hL3 hg3
  go_wp2_with fail
  refine HL3.out.mono ?_
  rintro e w4 ⟨rfl, hL4, hg4⟩
  rw [show day0 ansT = 41317 from by decide +kernel]
  have HB4 := Lib.hid (below_gr HB3.out hg4 hgw)
  have HL4 := Lib.hid (changeX_any g 0 0 _ 41498 ansT w4 hL4)
  clear hL4 hg4
  go_wp2_with fail
  refine HL4.out.mono ?_
  rintro e w5 ⟨rfl, hL5, hg5⟩
  rw [show chgV ansT 41498 = 1 from by decide +kernel]
  have HB5 := Lib.hid (below_gr HB4.out hg5 hgw)
  rw [show wrap64 (wrap64 (wrap64 (0 + 1) + 1) + 1) = 3 from by decide +kernel] at hL5
  have HL5 := Lib.hid (asked_any g 0 0 3 (by simp [I64]) ansT w5 hL5)
  clear hL5 hg5
  go_wp2_with fail
  refine HL5.out.mono ?_
  rintro e w6 ⟨rfl, rfl⟩
  go_wp2
  go_ret
  exact ⟨rfl, HB5.out⟩
end Go.Proofs.Ytdbhgeihphjgeaa

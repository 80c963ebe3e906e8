/- LeapsAsked: a loop over the days, five counted calls a round. -/
import Derived.Test.YtdbhgeihphjgeaaF2
namespace Go.Proofs.Ytdbhgeihphjgeaa
open Go.RowKit
set_option linter.unusedVariables false
set_option linter.unusedSimpArgs false

/-- a slice of numbers that reads as zs, and lies below block B -/
def Nums (w : World) (B : Nat) (v : Value) (zs : List Int) : Prop :=
  ∃ A c, v = .slice A zs.length c ∧ zs.length ≤ c ∧ c ≤ 9223372036854775807 ∧ (0 < zs.length → ∃ b off, A = some ⟨b, off, none⟩ ∧ b < B ∧
    ∀ i, i < zs.length → w.cell? ⟨b, off + i, none⟩ = some (.int .i64 (zs.getD i 0)))
theorem Nums.below {w w' : World} {B : Nat} {v : Value} {zs : List Int} (h : Nums w B v zs) (hb : Below B w w') : Nums w' B v zs := by
  obtain ⟨A, c, e, h1, h2, h3⟩ := h
  refine ⟨A, c, e, h1, h2, fun hp => ?_⟩
  obtain ⟨b, off, hA, hbB, hc⟩ := h3 hp
  refine ⟨b, off, hA, hbB, fun i hi => ?_⟩
  rw [hb.cell (p := ⟨b, _, none⟩) hbB]
  exact hc i hi

theorem wrap64_small {x : Int} (h0 : 0 ≤ x) (h1 : x ≤ 1000000) : wrap64 x = x := by unfold wrap64; omega

set_option maxRecDepth 100000 in
set_option maxHeartbeats 4000000 in
theorem leapsAsked_walk (v : Value) (es : List (Int × Int)) (u x : Int) (vd : Value) (zs : List Int) (w : World) (hv : Ents w w.heap.size v es) (hu : I64 u) (hx : I64 x) (hes : ∀ i, I64 (es.getD i (0, 0)).1 ∧ I64 (es.getD i (0, 0)).2) (hz : Nums w w.heap.size vd zs) :
    Calls Try.prog 8 #[.agg #[.int .i64 u, .int .i64 x, v], vd] w fun e w' => e = .returned (.bool true) ∧ Below w.heap.size w w' := by
  have hT := TB.mk w u x v es hv
  have hb0 : Below w.heap.size w (w.alloc (.cells #[.int .i64 u, .int .i64 x, v] 24)) := (by repeat (first | exact Below.refl _ _ | assumption | refine below_al ?_ _ | refine below_dr ?_ | refine below_drN ?_ _ | refine below_set ?_ (by simp; try omega) _ | (refine below_to ?_ (by assumption))))
  obtain ⟨A, c, hvv, _⟩ := hv
  obtain ⟨A', c', rfl, hzc, hzm, hzz⟩ := hz
  have HA := Lib.hid answers12_any
  cases hok : okT u x es
  · have HN := Lib.hid (new_no v es u x _ hT.ents hu hx hes hok)
    have HB0 := Lib.hid hb0
    clear hb0 hT hok hzz hzc hzm
    subst hvv
    generalize es.length = n at *
    generalize zs.length = m at *
    go_enter Try.func8, Try.ntmps8
    go_wp2_with fail
    refine HN.out.mono ?_
    rintro e w1 ⟨rfl, hb1⟩
    have HB1 := Lib.hid (below_to HB0.out hb1)
    clear hb1
    go_wp2_with fail
    refine (HA.out _).mono ?_
    rintro e w2 ⟨rfl, hb2⟩
    have HB2 := Lib.hid (below_to HB1.out hb2)
    clear hb2
    go_wp2
    go_ret
    exact ⟨rfl, HB2.out⟩
  · have HN := Lib.hid (new_yes v es u x _ hT.ents hu hx hes hok)
    have HB0 := Lib.hid hb0
    clear hb0 hT hok
    subst hvv
    obtain ⟨n, hn⟩ : ∃ n, n = es.length := ⟨_, rfl⟩
    rw [← hn] at HN HB0 ⊢
    clear hn
    obtain ⟨m, hm⟩ : ∃ m, m = zs.length := ⟨_, rfl⟩
    rw [← hm] at hzz hzc ⊢
    clear hm
    have HZ := Lib.hid hzz
    clear hzz
    go_enter Try.func8, Try.ntmps8
    go_wp2_with fail
    refine HN.out.mono ?_
    rintro e w1 ⟨g, rfl, hL1, hg, hb1⟩
    have hgw : w.heap.size < g := by simp at hg; omega
    have HB1 := Lib.hid (below_to HB0.out hb1)
    have HL1 := Lib.hid hL1
    clear hb1 hL1 hg
    by_cases h0 : 1000 < m
    · go_wp2_with fail
      refine (HA.out _).mono ?_
      rintro e w3 ⟨rfl, hb3⟩
      have HB3 := Lib.hid (below_to HB1.out hb3)
      clear hb3
      go_wp2
      go_ret
      exact ⟨rfl, HB3.out⟩
    go_wp2
    go_loopw [7, 8] (fun a i wr => ∃ k : Nat, k ≤ m ∧ a = .int .i64 (5 * k) ∧ i = .int .i64 k ∧ Hid (IsL wr g u x es (5 * k)) ∧ Hid (Below w.heap.size w wr)) (fun _ i _ => m - (intOf i).toNat)
    case atStart => exact ⟨0, Nat.zero_le _, rfl, rfl, Lib.hid HL1.out, Lib.hid HB1.out⟩
    case round =>
      obtain ⟨k, hk, rfl, rfl, HL, HB⟩ := hrel
      by_cases hlt : k < m
      · obtain ⟨b, off, rfl, hb, hcell⟩ := HZ.out (by omega)
        have hc := hcell k hlt
        obtain ⟨z, hz⟩ : ∃ z, z = zs.getD k 0 := ⟨_, rfl⟩
        rw [← hz] at hc
        clear hz hcell
        have i1 : (0 : Int) ≤ (k : Int) := by omega
        have i2 : (k : Int) < (m : Int) := by omega
        have i3 : IntKind.i64.wrap ((k : Int) + 1) = (k : Int) + 1 := IntWalk.i64_in _ (by omega)
        have i4 : IntKind.i64.wrap (5 * (k : Int) + 5) = 5 * (k : Int) + 5 := IntWalk.i64_in _ (by omega)
        have c0 : wr.cell? ⟨b, off + k, none⟩ = some (.int .i64 z) := (HB.out.cell (p := ⟨b, _, none⟩) hb).trans hc
        have HC1 := Lib.hid (offset_any g u x _ z es wr HL.out)
        go_wp2_with fail
        refine HC1.out.mono ?_
        rintro e w2 ⟨rfl, hL2, hg2⟩
        have HB2 := Lib.hid (below_gr HB.out hg2 (by omega))
        have c2 : w2.cell? ⟨b, off + k, none⟩ = some (.int .i64 z) := (HB2.out.cell (p := ⟨b, _, none⟩) hb).trans hc
        have HC2 := Lib.hid (offset_any g u x _ z es w2 hL2)
        clear c0 hL2 hg2
        go_wp2_with fail
        refine HC2.out.mono ?_
        rintro e w3 ⟨rfl, hL3, hg3⟩
        have HB3 := Lib.hid (below_gr HB2.out hg3 (by omega))
        have c3 : w3.cell? ⟨b, off + k, none⟩ = some (.int .i64 z) := (HB3.out.cell (p := ⟨b, _, none⟩) hb).trans hc
        have HC3 := Lib.hid (changeX_any g u x _ z es w3 hL3)
        clear c2 hL3 hg3
        go_wp2_with fail
        refine HC3.out.mono ?_
        rintro e w4 ⟨rfl, hL4, hg4⟩
        have HB4 := Lib.hid (below_gr HB3.out hg4 (by omega))
        have c4 : w4.cell? ⟨b, off + k, none⟩ = some (.int .i64 z) := (HB4.out.cell (p := ⟨b, _, none⟩) hb).trans hc
        have HC4 := Lib.hid (length_any g u x _ z es w4 hL4)
        clear c3 hL4 hg4
        go_wp2_with fail
        refine HC4.out.mono ?_
        rintro e w5 ⟨rfl, hL5, hg5⟩
        have HB5 := Lib.hid (below_gr HB4.out hg5 (by omega))
        have c5 : w5.cell? ⟨b, off + k, none⟩ = some (.int .i64 z) := (HB5.out.cell (p := ⟨b, _, none⟩) hb).trans hc
        have HC5 := Lib.hid (at_any g u x _ z es w5 hL5)
        clear c4 hL5 hg5
        go_wp2_with fail
        refine HC5.out.mono ?_
        rintro e w6 ⟨rfl, hL6, hg6⟩
        have HB6 := Lib.hid (below_gr HB5.out hg6 (by omega))
        have hq : wrap64 (wrap64 (wrap64 (wrap64 (wrap64 (5 * (k : Int) + 1) + 1) + 1) + 1) + 1) = 5 * (k : Int) + 5 := by
          rw [wrap64_small (x := 5 * (k : Int) + 1) (by omega) (by omega), wrap64_small (x := 5 * (k : Int) + 1 + 1) (by omega) (by omega), wrap64_small (x := 5 * (k : Int) + 1 + 1 + 1) (by omega) (by omega), wrap64_small (x := 5 * (k : Int) + 1 + 1 + 1 + 1) (by omega) (by omega), wrap64_small (x := 5 * (k : Int) + 1 + 1 + 1 + 1 + 1) (by omega) (by omega)]
          omega
        rw [hq] at hL6
        have HC6 := Lib.hid (first_any g u x _ es w6 hL6)
        clear c5 hL6 hg6 hq
        go_wp2_with fail
        refine HC6.out.mono ?_
        rintro e w7 ⟨rfl, hL7, hg7⟩
        have HB7 := Lib.hid (below_gr HB6.out hg7 (by omega))
        have HL7 := Lib.hid hL7
        have HC7 := Lib.hid (asked_any g u x _ (by unfold I64; omega) es w7 hL7)
        clear hL7 hg7
        go_wp2_with fail
        refine HC7.out.mono ?_
        rintro e w8 ⟨rfl, rfl⟩
        have HR := Lib.hid (show ∃ k' : Nat, k' ≤ m ∧ Value.int .i64 (5 * (k : Int) + 5) = .int .i64 (5 * k') ∧ Value.int .i64 ((k : Int) + 1) = .int .i64 k' ∧ Hid (IsL w7 g u x es (5 * k')) ∧ Hid (Below w.heap.size w w7) from
          ⟨k + 1, by omega, by rw [show 5 * ((k + 1 : Nat) : Int) = 5 * (k : Int) + 5 by omega], by rw [show ((k + 1 : Nat) : Int) = (k : Int) + 1 by omega], Lib.hid (by have := HL7.out; rw [show 5 * ((k + 1 : Nat) : Int) = 5 * (k : Int) + 5 by push_cast; omega]; exact this), HB7⟩)
        clear HL7 HC1 HC2 HC3 HC4 HC5 HC6 HC7
        go_wp2
        go_roundw
        case rel => exact HR.out
        case measure => simp [intOf]; omega
      · go_wp2_with fail
        refine (HA.out _).mono ?_
        rintro e w3 ⟨rfl, hb3⟩
        have HB3 := Lib.hid (below_to HB.out hb3)
        clear hb3
        go_wp2
        go_ret
        exact ⟨rfl, HB3.out⟩
end Go.Proofs.Ytdbhgeihphjgeaa

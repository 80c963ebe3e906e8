/- Walks of the laws of layer 12: LeapsSums, LeapsAt, LeapsNone. -/
import Derived.Test.YtdbhgeihphjgeaaF2
namespace Go.Proofs.Ytdbhgeihphjgeaa
open Go.RowKit
set_option linter.unusedVariables false
set_option linter.unusedSimpArgs false

/-! ### plain: from a day to the next one -/
theorem cnt_eq_C {es : List (Int × Int)} (h : okPre es es.length = true) (d : Int) : cntC es d = cnt dayOf es d := by
  have h1 := cnt_le dayOf es d
  have h2 := cntC_le es d
  rcases Nat.lt_trichotomy (cntC es d) (cnt dayOf es d) with hl | he | hg
  · have := (cnt_chg h d (i := cntC es d) (by omega)); have := (cnt_day h d (i := cntC es d) (by omega)); omega
  · exact he
  · have := (cnt_chg h d (i := cnt dayOf es d) (by omega)); have := (cnt_day h d (i := cnt dayOf es d) (by omega)); omega
theorem off_next {es : List (Int × Int)} (h : okPre es es.length = true) (hn : 0 < es.length) (d : Int) (hd : day0 es ≤ d) : offV es (d + 1) - offV es d = chgV es d := by
  have hc0 : 0 < cnt dayOf es d := (cnt_day h d hn).1 hd
  have hle := cnt_le dayOf es d
  have hle1 := cnt_le dayOf es (d + 1)
  have hC := cnt_eq_C h d
  have hge : cnt dayOf es d ≤ cnt dayOf es (d + 1) := by
    rcases Nat.lt_or_ge (cnt dayOf es (d + 1)) (cnt dayOf es d) with hl | hg
    · have a1 := cnt_day h d (i := cnt dayOf es (d + 1)) (by omega)
      have a2 := cnt_day h (d + 1) (i := cnt dayOf es (d + 1)) (by omega)
      omega
    · exact hg
  have hle2 : cnt dayOf es (d + 1) ≤ cnt dayOf es d + 1 := by
    rcases Nat.lt_or_ge (cnt dayOf es d + 1) (cnt dayOf es (d + 1)) with hl | hg
    · have a1 := cnt_day h d (i := cnt dayOf es d) (by omega)
      have a2 := cnt_day h (d + 1) (i := cnt dayOf es d + 1) (by omega)
      have a3 := (day_step h (k := cnt dayOf es d) (by omega)).1
      omega
    · exact hg
  unfold offV chgV
  rw [hC, if_neg (by omega), if_neg (by omega), if_neg (by omega)]
  split
  · rename_i hcn
    rw [show cnt dayOf es (d + 1) = cnt dayOf es d by omega]; omega
  · rename_i hcn
    have a1 := cnt_day h d (i := cnt dayOf es d) (by omega)
    have a2 := cnt_day h (d + 1) (i := cnt dayOf es d) (by omega)
    split
    · rename_i he
      rw [show cnt dayOf es (d + 1) = cnt dayOf es d + 1 by omega, Nat.add_sub_cancel]
    · rename_i he
      rw [show cnt dayOf es (d + 1) = cnt dayOf es d by omega]; omega
theorem off_bd {es : List (Int × Int)} (h : okPre es es.length = true) (d : Int) : 0 ≤ offV es d ∧ offV es d ≤ 1000 := by
  unfold offV
  split
  · omega
  · have hc := cnt_le dayOf es d
    have := okPre_num h (i := cnt dayOf es d - 1) (by omega)
    omega

set_option maxRecDepth 100000 in
set_option maxHeartbeats 4000000 in
theorem leapsSums_walk (v : Value) (es : List (Int × Int)) (u x day : Int) (w : World) (hv : Ents w w.heap.size v es) (hu : I64 u) (hx : I64 x) (hes : ∀ i, I64 (es.getD i (0, 0)).1 ∧ I64 (es.getD i (0, 0)).2) :
    Calls Try.prog 4 #[.agg #[.int .i64 u, .int .i64 x, v], .int .i64 day] w fun e w' => e = .returned (.bool true) ∧ Below w.heap.size w w' := by
  have hT := TB.mk w u x v es hv
  have hb0 : Below w.heap.size w (w.alloc (.cells #[.int .i64 u, .int .i64 x, v] 24)) := (by repeat (first | exact Below.refl _ _ | assumption | refine below_al ?_ _ | refine below_dr ?_ | refine below_drN ?_ _ | refine below_set ?_ (by simp; try omega) _ | (refine below_to ?_ (by assumption))))
  obtain ⟨A, c, hvv, _⟩ := hv
  have HA := Lib.hid answers12_any
  cases hok : okT u x es
  · have HN := Lib.hid (new_no v es u x _ hT.ents hu hx hes hok)
    have HB0 := Lib.hid hb0
    clear hb0 hT hok
    subst hvv
    generalize es.length = n at *
    go_enter Try.func4, Try.ntmps4
    go_wp2_with fail
    refine HN.out.mono ?_
    rintro e w1 ⟨rfl, hb1⟩
    have HB1 := Lib.hid (below_to HB0.out hb1)
    clear hb1
    go_wp2_with fail
    refine (HA.out _).mono ?_
    rintro e w2 ⟨rfl, hb2⟩
    have HB2 := Lib.hid (below_to HB1.out hb2)
    clear hb2
    go_wp2
    go_ret
    exact ⟨rfl, HB2.out⟩
  · have hp := okT_pre hok
    have HN := Lib.hid (new_yes v es u x _ hT.ents hu hx hes hok)
    have HB0 := Lib.hid hb0
    have HP := Lib.hid hp.1
    have HP2 := Lib.hid hp.2.1
    have hcb := chgV_bd hp.1 day
    have hob := off_bd hp.1 day
    have hob1 := off_bd hp.1 (day + 1)
    obtain ⟨cb0, cb1⟩ := hcb
    obtain ⟨ob0, ob1⟩ := hob
    obtain ⟨oc0, oc1⟩ := hob1
    clear hb0 hT hok hp
    subst hvv
    obtain ⟨n, hn⟩ : ∃ n, n = es.length := ⟨_, rfl⟩
    rw [← hn] at HN HB0 ⊢
    clear hn
    go_enter Try.func4, Try.ntmps4
    go_wp2_with fail
    refine HN.out.mono ?_
    rintro e w1 ⟨g, rfl, hL1, hg, hb1⟩
    have hgw : w.heap.size < g := by simp at hg; omega
    have HB1 := Lib.hid (below_to HB0.out hb1)
    have HL1 := Lib.hid (first_any g u x 0 es w1 hL1)
    clear hb1 hL1 hg
    go_wp2_with fail
    refine HL1.out.mono ?_
    rintro e w2 ⟨rfl, hL2, hg2⟩
    have HB2 := Lib.hid (below_gr HB1.out hg2 (by omega))
    have HL2 := Lib.hid hL2
    clear hL2 hg2
    by_cases h0 : day < day0 es
    · go_wp2_with fail
      refine (HA.out _).mono ?_
      rintro e w3 ⟨rfl, hb3⟩
      have HB3 := Lib.hid (below_to HB2.out hb3)
      clear hb3
      go_wp2
      go_ret
      exact ⟨rfl, HB3.out⟩
    by_cases h1 : 1125899906842624 < day
    · go_wp2_with fail
      refine (HA.out _).mono ?_
      rintro e w3 ⟨rfl, hb3⟩
      have HB3 := Lib.hid (below_to HB2.out hb3)
      clear hb3
      go_wp2
      go_ret
      exact ⟨rfl, HB3.out⟩
    have hnx := off_next HP.out HP2.out day (by omega)
    have HNX := Lib.hid hnx
    have hd0 : 0 ≤ day0 es := by have := okPre_num HP.out HP2.out; unfold day0 dayOf; omega
    clear hnx
    go_wp2_with fail
    refine (offset_any g u x 0 day es w2 HL2.out).mono ?_
    rintro e w3 ⟨rfl, hL3, hg3⟩
    have HB3 := Lib.hid (below_gr HB2.out hg3 (by omega))
    have HL3 := Lib.hid (offset_any g u x _ (day + 1) es w3 hL3)
    clear hL3 hg3
    go_wp2_with fail
    refine HL3.out.mono ?_
    rintro e w4 ⟨rfl, hL4, hg4⟩
    have HB4 := Lib.hid (below_gr HB3.out hg4 (by omega))
    have HL4 := Lib.hid (length_any g u x _ day es w4 hL4)
    clear hL4 hg4
    go_wp2_with fail
    refine HL4.out.mono ?_
    rintro e w5 ⟨rfl, hL5, hg5⟩
    have HB5 := Lib.hid (below_gr HB4.out hg5 (by omega))
    clear hL5 hg5
    rw [show lenV es day = 86400 + chgV es day by simp only [lenV]; rw [if_neg (by omega)]]
    go_wp2_with fail
    refine (HA.out _).mono ?_
    rintro e w6 ⟨rfl, hb6⟩
    have HB6 := Lib.hid (below_to HB5.out hb6)
    have hq : (86400 + chgV es day == 86400 + offV es (day + 1) - offV es day) = true := by rw [beq_iff_eq]; have := HNX.out; omega
    clear hb6
    go_wp2
    go_ret
    exact ⟨ret_b (by simp; omega), HB6.out⟩

set_option maxRecDepth 100000 in
set_option maxHeartbeats 4000000 in
theorem leapsNone_walk (n : Int) (w : World) :
    Calls Try.prog 9 #[.int .i64 n] w fun e w' => e = .returned (.bool true) ∧ Below w.heap.size w w' := by
  go_enter Try.func9, Try.ntmps9
  go_wp2_with fail
  refine (offset_nil n _).mono ?_
  rintro e w1 ⟨rfl, hb1⟩
  go_wp2_with fail
  refine (length_nil n _).mono ?_
  rintro e w2 ⟨rfl, hb2⟩
  go_wp2_with fail
  refine (at_nil n _).mono ?_
  rintro e w3 ⟨rfl, hb3⟩
  go_wp2_with fail
  refine (answers12_any _).mono ?_
  rintro e w4 ⟨rfl, hb4⟩
  go_wp2_with fail
  refine (first_nil _).mono ?_
  rintro e w5 ⟨rfl, hb5⟩
  go_wp2_with fail
  refine (change_nil n _).mono ?_
  rintro e w6 ⟨rfl, hb6⟩
  go_wp2_with fail
  refine (asked_nil _).mono ?_
  rintro e w7 ⟨rfl, hb7⟩
  go_wp2_with fail
  refine (table_nil _).mono ?_
  rintro e w8 ⟨rfl, hb8⟩
  go_wp2_with fail
  refine (same_yes (.slice none 0 0) (.slice none 0 0) [] 0 0 w8 ⟨none, 0, rfl, by simp, by omega, fun h => absurd h (by simp)⟩ ⟨none, 0, rfl, by simp, by omega, fun h => absurd h (by simp)⟩).mono ?_
  rintro e w9 ⟨rfl, hb9⟩
  go_wp2
  go_ret
  exact ⟨rfl, below_to (below_to (below_to (below_to (below_to (below_to (below_to (below_to hb1 hb2) hb3) hb4) hb5) hb6) hb7) hb8) hb9⟩
end Go.Proofs.Ytdbhgeihphjgeaa

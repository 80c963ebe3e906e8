/- Walks of the laws of layer 12: LeapsDays, LeapsSums, LeapsNews. -/
import Derived.Test.YtdbhgeihphjgeaaF1
namespace Go.Proofs.Ytdbhgeihphjgeaa
open Go.RowKit
set_option linter.unusedVariables false
set_option linter.unusedSimpArgs false

theorem Ents.grown {w w' : World} {B g : Nat} {v : Value} {es : List (Int × Int)} (h : Ents w B v es) (hg : w.grownBy w' (some g)) (hB : B ≤ g) (hB2 : B ≤ w.heap.size) : Ents w' B v es := by
  obtain ⟨A, c, e, h1, h2, h3⟩ := h
  refine ⟨A, c, e, h1, h2, fun hp => ?_⟩
  obtain ⟨b, off, hA, hbB, hc⟩ := h3 hp
  refine ⟨b, off, hA, hbB, fun i hi => ?_⟩
  rw [gcell hg _ _ (by omega) (by omega), gcell hg _ _ (by omega) (by omega)]
  exact hc i hi

/-- a law's table in its box at block b; what its slice leads to lies below b -/
def TB (b : Nat) (W : World) (u x : Int) (v : Value) (es : List (Int × Int)) : Prop :=
  W.cell? ⟨b, 0, none⟩ = some (.int .i64 u) ∧ W.cell? ⟨b, 1, none⟩ = some (.int .i64 x) ∧ W.cell? ⟨b, 2, none⟩ = some v ∧ Ents W b v es ∧ b < W.heap.size
theorem TB.below {b : Nat} {W W' : World} {u x : Int} {v : Value} {es : List (Int × Int)} (h : TB b W u x v es) (hb : Below W.heap.size W W') : TB b W' u x v es := by
  obtain ⟨h0, h1, h2, h3, h4⟩ := h
  exact ⟨(hb.cell (p := ⟨b, 0, none⟩) h4).trans h0, (hb.cell (p := ⟨b, 1, none⟩) h4).trans h1, (hb.cell (p := ⟨b, 2, none⟩) h4).trans h2, h3.below (hb.mono (by omega)), Nat.lt_of_lt_of_le h4 hb.size⟩
theorem TB.gr {b g : Nat} {W W' : World} {u x : Int} {v : Value} {es : List (Int × Int)} (h : TB b W u x v es) (hg : W.grownBy W' (some g)) (hlt : b < g) : TB b W' u x v es := by
  obtain ⟨h0, h1, h2, h3, h4⟩ := h
  exact ⟨(gcell hg b 0 h4 (by omega)).trans h0, (gcell hg b 1 h4 (by omega)).trans h1, (gcell hg b 2 h4 (by omega)).trans h2, h3.grown hg (by omega) (by omega), Nat.lt_of_lt_of_le h4 hg.size⟩
theorem TB.ents {b : Nat} {W : World} {u x : Int} {v : Value} {es : List (Int × Int)} (h : TB b W u x v es) : Ents W W.heap.size v es := h.2.2.2.1.mono (Nat.le_of_lt h.2.2.2.2)
theorem TB.mk (w : World) (u x : Int) (v : Value) (es : List (Int × Int)) (hv : Ents w w.heap.size v es) : TB w.heap.size (w.alloc (.cells #[.int .i64 u, .int .i64 x, v] 24)) u x v es :=
  ⟨by simp, by simp, by simp, hv.below (below_al (Below.refl _ _) _), by simp⟩

theorem TB.dr {b : Nat} {W : World} {u x : Int} {v : Value} {es : List (Int × Int)} (h : TB b W u x v es) : TB b W.drew u x v es := h.below (below_dr (Below.refl _ _))
theorem IsL.dr {w : World} {g : Nat} {u x q : Int} {es : List (Int × Int)} (h : IsL w g u x es q) : IsL w.drew g u x es q := h.below (below_dr (Below.refl _ _))
theorem rOff_eq (es : List (Int × Int)) (d : Int) : rOff es (cnt dayOf es d) = offV es d := rfl
theorem early_iff {es : List (Int × Int)} (h : okPre es es.length = true) (hn : 0 < es.length) (d : Int) : cnt dayOf es d = 0 ↔ d < day0 es := by
  have := cnt_day h d hn
  unfold day0; omega

set_option maxRecDepth 100000 in
set_option maxHeartbeats 4000000 in
theorem leapsDays_walk (v : Value) (es : List (Int × Int)) (u x day : Int) (w : World) (hv : Ents w w.heap.size v es) (hu : I64 u) (hx : I64 x) (hes : ∀ i, I64 (es.getD i (0, 0)).1 ∧ I64 (es.getD i (0, 0)).2) :
    Calls Try.prog 3 #[.agg #[.int .i64 u, .int .i64 x, v], .int .i64 day] w fun e w' => e = .returned (.bool true) ∧ Below w.heap.size w w' := by
  have hT := TB.mk w u x v es hv
  have hb0 : Below w.heap.size w (w.alloc (.cells #[.int .i64 u, .int .i64 x, v] 24)) := (by repeat (first | exact Below.refl _ _ | assumption | refine below_al ?_ _ | refine below_dr ?_ | refine below_drN ?_ _ | refine below_set ?_ (by simp; try omega) _ | (refine below_to ?_ (by assumption))))
  obtain ⟨A, c, hvv, _⟩ := hv
  cases hok : okT u x es
  · have HN := Lib.hid (new_no v es u x _ hT.ents hu hx hes hok)
    have HB0 := Lib.hid hb0
    clear hb0 hT hok
    subst hvv
    generalize es.length = n at *
    go_enter Try.func3, Try.ntmps3
    go_wp2_with fail
    refine HN.out.mono ?_
    rintro e w1 ⟨rfl, hb1⟩
    have HB1 := Lib.hid (below_to HB0.out hb1)
    clear hb1
    go_wp2_with fail
    refine (answers12_any _).mono ?_
    rintro e w2 ⟨rfl, hb2⟩
    have HB2 := Lib.hid (below_to HB1.out hb2)
    clear hb2
    go_wp2
    go_ret
    exact ⟨rfl, HB2.out⟩
  · have hp := okT_pre hok
    have HN := Lib.hid (new_yes v es u x _ hT.ents hu hx hes hok)
    have HB0 := Lib.hid hb0
    have HT := Lib.hid hT
    have HE := Lib.hid (early_iff hp.1 hp.2.1 day)
    have HP := Lib.hid hp.1
    have hcb := chgV_bd hp.1 day
    obtain ⟨cb0, cb1⟩ := hcb
    clear hb0 hT hok hp
    subst hvv
    obtain ⟨n, hn⟩ : ∃ n, n = es.length := ⟨_, rfl⟩
    rw [← hn] at HN HT HB0 ⊢
    clear hn
    go_enter Try.func3, Try.ntmps3
    go_wp2_with fail
    refine HN.out.mono ?_
    rintro e w1 ⟨g, rfl, hL1, hg, hb1⟩
    have hgw : w.heap.size < g := by simp at hg; omega
    have HB1 := Lib.hid (below_to HB0.out hb1)
    have HT1 := Lib.hid (HT.out.below hb1)
    have HL1 := Lib.hid (offset_any g u x 0 day es w1 hL1)
    clear hb1 hL1 hg
    go_wp2_with fail
    refine HL1.out.mono ?_
    rintro e w2 ⟨rfl, hL2, hg2⟩
    have HB2 := Lib.hid (below_gr HB1.out hg2 (by omega))
    have HT2 := Lib.hid (HT1.out.gr hg2 hgw)
    have HL2 := Lib.hid (length_any g u x _ day es w2 hL2)
    clear hL2 hg2
    go_wp2_with fail
    refine HL2.out.mono ?_
    rintro e w3 ⟨rfl, hL3, hg3⟩
    have HB3 := Lib.hid (below_gr HB2.out hg3 (by omega))
    have hT3 := HT2.out.gr hg3 hgw
    have HT3 := Lib.hid hT3
    have HL3 := Lib.hid hL3
    have HR := Lib.hid (roffset_any _ es u x day w3 hT3.ents HP.out)
    obtain ⟨k0, k1, k2, _, k4⟩ := hT3
    clear hL3 hg3
    go_wp2_with fail
    refine HR.out.mono ?_
    rintro e w4 ⟨rfl, hb4⟩
    have HB4 := Lib.hid (below_to HB3.out hb4)
    have hT4 := HT3.out.below hb4
    have HT4 := Lib.hid hT4
    have HL4 := Lib.hid (HL3.out.below hb4)
    clear k0 k1 k2 k4 hb4
    obtain ⟨k0, k1, k2, _, k4⟩ := hT4
    go_wp2_with fail
    go_region_held3 (fun w' => w'.cell? ⟨w.heap.size, 0, none⟩ = some (.int .i64 u) ∧ w'.cell? ⟨w.heap.size, 1, none⟩ = some (.int .i64 x) ∧ w'.cell? ⟨w.heap.size, 2, none⟩ = some (.slice A n c)) (go_keep)
      (first | (go_at_call 25; refine (changeX_any g u x _ day es _ HL4.out.dr).mono ?_; rintro e w5 ⟨rfl, hL5, hg5⟩; obtain ⟨k50, k51, k52, _, _⟩ := HT4.out.dr.gr hg5 hgw) | (go_at_call 26; refine (rchange_any _ es u x day _ (HT4.out.dr.gr hg5 hgw).ents HP.out).mono ?_; rintro e w6 ⟨rfl, hb6⟩; obtain ⟨k60, k61, k62, _, _⟩ := (HT4.out.dr.gr hg5 hgw).below hb6))
    have HB6 := Lib.hid (below_to (below_gr (below_dr HB4.out) hg5 (by omega)) hb6)
    have HT6 := Lib.hid ((HT4.out.dr.gr hg5 hgw).below hb6)
    clear k0 k1 k2 k4 k50 k51 k52 k60 k61 k62 hb6 hL5 hg5
    by_cases h0 : cnt dayOf es day = 0
    · have e1 : offV es day = 0 := by simp [offV, h0]
      have e2 : offE es day = 8 := by simp [offE, h0]
      have e3 : lenV es day = 0 := by simp only [lenV]; rw [if_pos (HE.out.1 h0)]
      have e4 : lenE es day = 8 := by simp only [lenE]; rw [if_pos (HE.out.1 h0)]
      have e5 : rOk (cnt dayOf es day) = false := by rw [h0]; rfl
      rw [e1, e2, e3, e4, e5]
      clear e1 e2 e3 e4 e5 h0
      go_wp2_with fail
      refine (answers12_any _).mono ?_
      rintro e w7 ⟨rfl, hb7⟩
      have HB7 := Lib.hid (below_to HB6.out hb7)
      clear hb7
      go_wp2
      go_ret
      exact ⟨rfl, HB7.out⟩
    · have e2 : offE es day = 0 := by simp [offE, h0]
      have e3 : lenV es day = 86400 + chgV es day := by simp only [lenV]; rw [if_neg (fun h => h0 (HE.out.2 h))]
      have e4 : lenE es day = 0 := by simp only [lenE]; rw [if_neg (fun h => h0 (HE.out.2 h))]
      have e5 : rOk (cnt dayOf es day) = true := by simp [rOk, h0]
      rw [e2, e3, e4, e5, rOff_eq]
      clear e2 e3 e4 e5 h0
      go_wp2_with fail
      refine (answers12_any _).mono ?_
      rintro e w7 ⟨rfl, hb7⟩
      have HB7 := Lib.hid (below_to HB6.out hb7)
      have hT7 := HT6.out.below hb7
      have HR7 := Lib.hid (rchange_any _ es u x day _ hT7.ents HP.out)
      obtain ⟨k0, k1, k2, _, k4⟩ := hT7
      clear hb7
      go_wp2_with fail
      refine HR7.out.mono ?_
      rintro e w8 ⟨rfl, hb8⟩
      have HB8 := Lib.hid (below_to HB7.out hb8)
      clear hb8 k0 k1 k2 k4
      go_wp2
      go_ret
      exact ⟨ret_b (by simp), HB8.out⟩
end Go.Proofs.Ytdbhgeihphjgeaa

/- Walks of the laws of layer 12: LeapsAt, LeapsNews. -/
import Derived.Test.YtdbhgeihphjgeaaF3
namespace Go.Proofs.Ytdbhgeihphjgeaa
open Go.RowKit
set_option linter.unusedVariables false
set_option linter.unusedSimpArgs false

set_option maxRecDepth 100000 in
set_option maxHeartbeats 4000000 in
theorem leapsAt_walk (v : Value) (es : List (Int × Int)) (u x s : Int) (w : World) (hv : Ents w w.heap.size v es) (hu : I64 u) (hx : I64 x) (hes : ∀ i, I64 (es.getD i (0, 0)).1 ∧ I64 (es.getD i (0, 0)).2) :
    Calls Try.prog 7 #[.agg #[.int .i64 u, .int .i64 x, v], .int .i64 s] w fun e w' => e = .returned (.bool true) ∧ Below w.heap.size w w' := by
  have hT := TB.mk w u x v es hv
  have hb0 : Below w.heap.size w (w.alloc (.cells #[.int .i64 u, .int .i64 x, v] 24)) := (by repeat (first | exact Below.refl _ _ | assumption | refine below_al ?_ _ | refine below_dr ?_ | refine below_drN ?_ _ | refine below_set ?_ (by simp; try omega) _ | (refine below_to ?_ (by assumption))))
  obtain ⟨A, c, hvv, _⟩ := hv
  have HA := Lib.hid answers12_any
  cases hok : okT u x es
  · have HN := Lib.hid (new_no v es u x _ hT.ents hu hx hes hok)
    have HB0 := Lib.hid hb0
    clear hb0 hT hok
    subst hvv
    generalize es.length = n at *
    go_enter Try.func7, Try.ntmps7
    go_wp2_with fail
    refine HN.out.mono ?_
    rintro e w1 ⟨rfl, hb1⟩
    have HB1 := Lib.hid (below_to HB0.out hb1)
    clear hb1
    go_wp2_with fail
    refine (HA.out _).mono ?_
    rintro e w2 ⟨rfl, hb2⟩
    have HB2 := Lib.hid (below_to HB1.out hb2)
    clear hb2
    go_wp2
    go_ret
    exact ⟨rfl, HB2.out⟩
  · have hp := okT_pre hok
    have HN := Lib.hid (new_yes v es u x _ hT.ents hu hx hes hok)
    have HB0 := Lib.hid hb0
    have HT := Lib.hid hT
    have HP := Lib.hid hp.1
    have hlen := hp.2.2
    have hcl := cnt_le startOf es s
    clear hb0 hT hok hp
    subst hvv
    obtain ⟨n, hn⟩ : ∃ n, n = es.length := ⟨_, rfl⟩
    rw [← hn] at HN HT HB0 hlen hcl ⊢
    have HNN := Lib.hid hn
    clear hn
    go_enter Try.func7, Try.ntmps7
    go_wp2_with fail
    refine HN.out.mono ?_
    rintro e w1 ⟨g, rfl, hL1, hg, hb1⟩
    have hgw : w.heap.size < g := by simp at hg; omega
    have HB1 := Lib.hid (below_to HB0.out hb1)
    have HT1 := Lib.hid (HT.out.below hb1)
    have HL1 := Lib.hid (at_any g u x 0 s es w1 hL1)
    clear hb1 hL1 hg
    go_wp2_with fail
    refine HL1.out.mono ?_
    rintro e w2 ⟨rfl, hL2, hg2⟩
    have HB2 := Lib.hid (below_gr HB1.out hg2 (by omega))
    have hT2 := HT1.out.gr hg2 hgw
    have HT2 := Lib.hid hT2
    have HR := Lib.hid (rat_any _ es u x s w2 hT2.ents HP.out)
    obtain ⟨k0, k1, k2, _, k4⟩ := hT2
    clear hL2 hg2
    go_wp2_with fail
    refine HR.out.mono ?_
    rintro e w3 ⟨rfl, hb3⟩
    have HB3 := Lib.hid (below_to HB2.out hb3)
    have hT3 := HT2.out.below hb3
    have HT3 := Lib.hid hT3
    clear k0 k1 k2 k4 hb3
    obtain ⟨k0, k1, k2, _, k4⟩ := hT3
    by_cases h0 : cnt startOf es s = 0
    · have e1 : atV es s = 0 := by simp [atV, h0]
      have e2 : atU es s = 0 := by simp [atU, h0]
      have e3 : atE es s = 8 := by simp [atE, h0]
      rw [e1, e2, e3, h0]
      clear e1 e2 e3 h0
      go_wp2_with fail
      refine (HA.out _).mono ?_
      rintro e w4 ⟨rfl, hb4⟩
      have HB4 := Lib.hid (below_to HB3.out hb4)
      clear hb4 k0 k1 k2 k4
      go_wp2
      go_ret
      exact ⟨rfl, HB4.out⟩
    · have e3 : atE es s = 0 := by simp [atE, h0]
      have e1 : atV es s = (es.getD (cnt startOf es s - 1) (0, 0)).2 := by simp [atV, h0]
      have e2 : atU es s = if cnt startOf es s = n then 4611686018427387904 else dayOf (es.getD (cnt startOf es s) (0, 0)) := by simp only [atU]; rw [if_neg h0, ← HNN.out]
      obtain ⟨m, hm⟩ : ∃ m, cnt startOf es s = m + 1 := ⟨cnt startOf es s - 1, by omega⟩
      rw [hm] at e1 e2 hcl
      rw [show m + 1 - 1 = m by omega] at e1
      have HE1 := Lib.hid e1
      rw [e3, hm]
      clear h0 hm e3 e1
      have hes3 := HT3.out.2.2.2.1
      have hA : ∃ b off, A = some ⟨b, off, none⟩ ∧ b < w.heap.size := by
        obtain ⟨A', c', e', h1', h2', h3'⟩ := hes3
        simp only [Value.slice.injEq] at e'
        obtain ⟨rfl, _, _⟩ := e'
        obtain ⟨b, off, hA, hb, _⟩ := h3' (by rw [← HNN.out]; omega)
        exact ⟨b, off, hA, hb⟩
      obtain ⟨b, off, rfl, hbl⟩ := hA
      have i0 : (0 : Int) ≤ (m : Int) := by omega
      have i3 : (m : Int) < (n : Int) := by omega
      have hbw3 : b < w3.heap.size := by omega
      rw [show ((m + 1 : Nat) : Int) - 1 = (m : Int) by omega]
      by_cases h1 : m + 1 = n
      · rw [if_pos h1] at e2
        rw [e2]
        have g1 : ¬ (m : Int) + 1 < (n : Int) := by omega
        clear e2 h1
        go_wp2_with fail
        refine (HA.out _).mono ?_
        rintro e w4 ⟨rfl, hb4⟩
        have HB4 := Lib.hid (below_to HB3.out hb4)
        have hT4 := HT3.out.below hb4
        obtain ⟨c0, c1⟩ := hT4.2.2.2.1.get HNN.out m (by omega)
        obtain ⟨j0, j1, j2, _, j4⟩ := hT4
        rw [← HE1.out] at c1
        clear hb4 k0 k1 k2 k4 hes3 c0
        go_wp2
        go_ret
        exact ⟨ret_b (by simp), HB4.out⟩
      · rw [if_neg h1] at e2
        have g1 : (m : Int) + 1 < (n : Int) := by omega
        have i1 : (0 : Int) ≤ (m : Int) + 1 := by omega
        obtain ⟨c0, c1⟩ := hes3.get HNN.out (m + 1) (by omega)
        have hnum := okPre_num HP.out (i := m + 1) (by rw [← HNN.out]; omega)
        obtain ⟨⟨a, o⟩, he⟩ : ∃ e, e = es.getD (m + 1) (0, 0) := ⟨_, rfl⟩
        rw [← he] at c0 c1 hnum e2
        obtain ⟨n0, n1, n2, n3, _⟩ := hnum
        simp only at n0 n1 n2 n3
        rw [e2]
        have HD := Lib.hid (fun W => rday_any a o n0 n1 W)
        clear e2 h1 he hes3
        go_wp2_with fail
        refine (HD.out _).mono ?_
        rintro e w4 ⟨rfl, hb4⟩
        have HB4 := Lib.hid (below_to HB3.out hb4)
        have HT4 := Lib.hid (HT3.out.below hb4)
        clear hb4 c0 c1 k0 k1 k2 k4
        go_wp2_with fail
        refine (HA.out _).mono ?_
        rintro e w5 ⟨rfl, hb5⟩
        have HB5 := Lib.hid (below_to HB4.out hb5)
        have hT5 := HT4.out.below hb5
        obtain ⟨c0, c1⟩ := hT5.2.2.2.1.get HNN.out m (by omega)
        obtain ⟨j0, j1, j2, _, j4⟩ := hT5
        rw [← HE1.out] at c1
        clear hb5 c0
        go_wp2
        go_ret
        exact ⟨ret_b (by simp), HB5.out⟩

theorem TB.fst5 {bx : Nat} {W : World} {u x : Int} {b off n c : Nat} {es : List (Int × Int)} (h : TB bx W u x (.slice (some ⟨b, off, none⟩) n c) es) (hn : n = es.length) (hpos : 0 < n) (a o : Int) (he : (a, o) = es.getD 0 (0, 0)) :
    W.cell? ⟨bx, 0, none⟩ = some (.int .i64 u) ∧ W.cell? ⟨bx, 1, none⟩ = some (.int .i64 x) ∧ W.cell? ⟨bx, 2, none⟩ = some (.slice (some ⟨b, off, none⟩) n c) ∧ W.cell? ⟨b, off, none⟩ = some (.int .i64 a) ∧ W.cell? ⟨b, off + 1, none⟩ = some (.int .i64 o) := by
  obtain ⟨h0, h1, h2, h3, h4⟩ := h
  obtain ⟨c0, c1⟩ := h3.get hn 0 hpos
  rw [← he] at c0 c1
  rw [Nat.zero_mul, Nat.add_zero] at c0 c1
  exact ⟨h0, h1, h2, c0, c1⟩

set_option maxRecDepth 100000 in
set_option maxHeartbeats 4000000 in
theorem leapsNews_walk (v : Value) (es : List (Int × Int)) (u x : Int) (w : World) (hv : Ents w w.heap.size v es) (hu : I64 u) (hx : I64 x) (hes : ∀ i, I64 (es.getD i (0, 0)).1 ∧ I64 (es.getD i (0, 0)).2) :
    Calls Try.prog 5 #[.agg #[.int .i64 u, .int .i64 x, v]] w fun e w' => e = .returned (.bool true) ∧ Below w.heap.size w w' := by
  have hT := TB.mk w u x v es hv
  have hb0 : Below w.heap.size w (w.alloc (.cells #[.int .i64 u, .int .i64 x, v] 24)) := (by repeat (first | exact Below.refl _ _ | assumption | refine below_al ?_ _ | refine below_dr ?_ | refine below_drN ?_ _ | refine below_set ?_ (by simp; try omega) _ | (refine below_to ?_ (by assumption))))
  obtain ⟨A, c, hvv, _⟩ := hv
  have HA := Lib.hid answers12_any
  have HES := Lib.hid hes
  cases hok : okT u x es
  · have HN := Lib.hid (new_no v es u x _ hT.ents hu hx hes hok)
    have HB0 := Lib.hid hb0
    have HT := Lib.hid hT
    have HOK := Lib.hid hok
    clear hb0 hT hok hes
    subst hvv
    obtain ⟨n, hn⟩ : ∃ n, n = es.length := ⟨_, rfl⟩
    rw [← hn] at HN HT HB0 ⊢
    clear hn
    go_enter Try.func5, Try.ntmps5
    go_wp2_with fail
    refine HN.out.mono ?_
    rintro e w1 ⟨rfl, hb1⟩
    have HB1 := Lib.hid (below_to HB0.out hb1)
    have hT1 := HT.out.below hb1
    have HR := Lib.hid (rtable_any _ es u x w1 hT1.ents hu hx HES.out)
    obtain ⟨k0, k1, k2, _, k4⟩ := hT1
    clear hb1
    go_wp2_with fail
    refine HR.out.mono ?_
    rintro e w2 ⟨m, rfl, hb2⟩
    rw [HOK.out]
    have HB2 := Lib.hid (below_to HB1.out hb2)
    clear hb2 k0 k1 k2 k4
    go_wp2_with fail
    refine (HA.out _).mono ?_
    rintro e w3 ⟨rfl, hb3⟩
    have HB3 := Lib.hid (below_to HB2.out hb3)
    clear hb3
    go_wp2
    go_ret
    exact ⟨rfl, HB3.out⟩
  · have hp := okT_pre hok
    have HN := Lib.hid (new_yes v es u x _ hT.ents hu hx hes hok)
    have HB0 := Lib.hid hb0
    have HT := Lib.hid hT
    have HP := Lib.hid hp.1
    have HOK := Lib.hid hok
    have hlen := hp.2.2
    have hpos := hp.2.1
    clear hb0 hT hok hp hes
    subst hvv
    obtain ⟨n, hn⟩ : ∃ n, n = es.length := ⟨_, rfl⟩
    rw [← hn] at HN HT HB0 hlen hpos ⊢
    have HNN := Lib.hid hn
    clear hn
    go_enter Try.func5, Try.ntmps5
    go_wp2_with fail
    refine HN.out.mono ?_
    rintro e w1 ⟨g, rfl, hL1, hg, hb1⟩
    have hgw : w.heap.size < g := by simp at hg; omega
    have HB1 := Lib.hid (below_to HB0.out hb1)
    have hT1 := HT.out.below hb1
    have HT1 := Lib.hid hT1
    have HL1 := Lib.hid hL1
    have HR := Lib.hid (rtable_any _ es u x w1 hT1.ents hu hx HES.out)
    obtain ⟨k0, k1, k2, _, k4⟩ := hT1
    clear hb1 hL1 hg
    go_wp2_with fail
    refine HR.out.mono ?_
    rintro e w2 ⟨m, rfl, hb2⟩
    rw [HOK.out]
    have HB2 := Lib.hid (below_to HB1.out hb2)
    have hT2 := HT1.out.below hb2
    have HT2 := Lib.hid hT2
    have HL2 := Lib.hid (HL1.out.below hb2)
    clear hb2 k0 k1 k2 k4
    obtain ⟨k0, k1, k2, _, k4⟩ := hT2
    have hes2 := HT2.out.2.2.2.1
    have hA : ∃ b off, A = some ⟨b, off, none⟩ ∧ b < w.heap.size := by
      obtain ⟨A', c', e', h1', h2', h3'⟩ := hes2
      simp only [Value.slice.injEq] at e'
      obtain ⟨rfl, _, _⟩ := e'
      obtain ⟨b, off, hA, hb, _⟩ := h3' (by rw [← HNN.out]; omega)
      exact ⟨b, off, hA, hb⟩
    obtain ⟨b, off, rfl, hbl⟩ := hA
    obtain ⟨c0, c1⟩ := hes2.get HNN.out 0 (by omega)
    have hnum := okPre_num HP.out (i := 0) (by rw [← HNN.out]; omega)
    obtain ⟨⟨a, o⟩, he⟩ : ∃ e, e = es.getD 0 (0, 0) := ⟨_, rfl⟩
    rw [← he] at c0 c1 hnum
    obtain ⟨n0, n1, n2, n3, _⟩ := hnum
    simp only at n0 n1 n2 n3
    rw [Nat.zero_mul, Nat.add_zero] at c0 c1
    have HD := Lib.hid (fun W => rday_any a o n0 n1 W)
    have HEE := Lib.hid he
    have i0 : (0 : Int) < (n : Int) := by omega
    clear he hes2
    have hq : (day0 es == dayOf (a, o)) = true := by rw [beq_iff_eq, HEE.out]; rfl
    have HQ := fun W (h : TB w.heap.size W u x (.slice (some ⟨b, off, none⟩) n c) es) => h.fst5 HNN.out hpos a o HEE.out
    have HQ' := Lib.hid HQ
    clear HQ
    go_wp2_with fail
    go_region_held3 (fun w' => w'.cell? ⟨w.heap.size, 0, none⟩ = some (.int .i64 u) ∧ w'.cell? ⟨w.heap.size, 1, none⟩ = some (.int .i64 x) ∧ w'.cell? ⟨w.heap.size, 2, none⟩ = some (.slice (some ⟨b, off, none⟩) n c) ∧ w'.cell? ⟨b, off, none⟩ = some (.int .i64 a) ∧ w'.cell? ⟨b, off + 1, none⟩ = some (.int .i64 o)) (go_keep)
      (first
        | (go_at_call 21; refine (HA.out _).mono ?_; rintro e w3 ⟨rfl, hb3⟩; have T3 := Lib.hid (HT2.out.dr.below hb3); obtain ⟨k30, k31, k32, k33, k34⟩ := HQ'.out _ T3.out)
        | (go_at_call 30; refine (table_any g u x 0 es _ (HL2.out.dr.below hb3)).mono ?_; rintro e w4 ⟨gt, rfl, hbk4, hge4, hb4⟩; have T4 := Lib.hid (T3.out.below hb4); obtain ⟨k40, k41, k42, k43, k44⟩ := HQ'.out _ T4.out; have HBK4 := Lib.hid hbk4; clear hbk4)
        | (go_at_call 29; refine (same_yes _ _ es u x _ (HBK4.out.ents (Nat.le_refl _) (by omega) HBK4.out.lt) T4.out.ents).mono ?_; rintro e w5 ⟨rfl, hb5⟩; have T5 := Lib.hid (T4.out.below hb5); obtain ⟨k50, k51, k52, k53, k54⟩ := HQ'.out _ T5.out)
        | (go_at_call 27; refine (first_any g u x 0 es _ (((HL2.out.dr.below hb3).below hb4).below hb5)).mono ?_; rintro e w6 ⟨rfl, hL6, hg6⟩; have T6 := Lib.hid (T5.out.gr hg6 hgw); obtain ⟨k60, k61, k62, k63, k64⟩ := HQ'.out _ T6.out; have HL6 := Lib.hid hL6; clear hL6)
        | (go_at_call 31; refine (HD.out _).mono ?_; rintro e w7 ⟨rfl, hb7⟩; have T7 := Lib.hid (T6.out.below hb7); obtain ⟨k70, k71, k72, k73, k74⟩ := HQ'.out _ T7.out)
        | (go_at_call 32; refine (asked_any g u x 0 (by simp [I64]) es _ (HL6.out.below hb7)).mono ?_; rintro e w8 ⟨rfl, rfl⟩))
    have HBF := Lib.hid (below_to (below_gr (below_to (below_to (below_to (below_dr HB2.out) hb3) hb4) hb5) hg6 (by omega)) hb7)
    clear hb3 hb4 hb5 hg6 hb7
    go_wp2
    go_ret
    exact ⟨ret_b (by simp), HBF.out⟩
end Go.Proofs.Ytdbhgeihphjgeaa

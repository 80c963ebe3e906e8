/- Walks of the references of layers 11 and 12: Change, At; Entry, Table, Same. -/
import Derived.Test.YtdbhgeihphjgeaaE1
namespace Go.Proofs.Ytdbhgeihphjgeaa
open Go.RowKit
set_option linter.unusedVariables false
set_option linter.unusedSimpArgs false

set_option maxRecDepth 100000 in
set_option maxHeartbeats 2000000 in
theorem rchange_any (v : Value) (es : List (Int × Int)) (u x d : Int) (w : World) (hv : Ents w w.heap.size v es) (hp : okPre es es.length = true) :
    Calls Try.prog 26 #[.agg #[.int .i64 u, .int .i64 x, v], .int .i64 d] w fun e w' => e = .returned (.int .i64 (chgV es d)) ∧ Below w.heap.size w w' := by
  have hlen := okPre_len hp
  have HP := Lib.hid hp
  have hvv := hv
  obtain ⟨A, c, rfl, hc, hc2, hcells⟩ := hvv
  obtain ⟨w1, hw1, q0, q1, q2, hE1, hB1, s1⟩ := tbox w u x _ es hv
  have HCN := Lib.hid (chg_none (es := es) d)
  have HCF := Lib.hid (fun k => chg_found (k := k) hp d)
  obtain ⟨n, hn⟩ : ∃ n, n = es.length := ⟨_, rfl⟩
  rw [← hn] at hc hcells hw1 q2 hE1 hlen HCN HCF ⊢
  have HN := Lib.hid hn
  have HE1 := Lib.hid hE1
  have HB1 := Lib.hid hB1
  clear hn hp hv hE1 hB1 hc2
  go_enter Try.func26, Try.ntmps26
  go_wp2
  rw [← hw1]
  clear hw1
  go_loopw [5] (fun i wr => ∃ k : Nat, 1 ≤ k ∧ k ≤ n + 1 ∧ i = .int .i64 k ∧ Hid (∀ j, 0 < j → j < k → j < n → dayOf (es.getD j (0, 0)) - 1 ≠ d) ∧ Below w1.heap.size w1 wr) (fun i _ => n + 1 - (intOf i).toNat)
  case atStart => exact ⟨1, by omega, by omega, rfl, fun j h1 h2 => by omega, Below.refl _ _⟩
  case round =>
    obtain ⟨k, hk1, hk, rfl, hno, hbw⟩ := hrel
    have hsz := hbw.size
    have r2 : wr.cell? ⟨w.heap.size, 2, none⟩ = some (.slice A n c) := (hbw.cell (p := ⟨_, 2, none⟩) (by simp; omega)).trans q2
    by_cases hlt : k < n
    · obtain ⟨b, off, rfl, hb, hcell⟩ := hcells (by omega)
      obtain ⟨m, rfl⟩ : ∃ m, k = m + 1 := ⟨k - 1, by omega⟩
      obtain ⟨c0, c1⟩ := (HE1.out.below hbw).get HN.out (m + 1) hlt
      obtain ⟨b0, b1⟩ := (HE1.out.below hbw).get HN.out m (by omega)
      have hnum := okPre_num HP.out (i := m + 1) (by rw [← HN.out]; exact hlt)
      have hnum2 := okPre_num HP.out (i := m) (by rw [← HN.out]; omega)
      obtain ⟨⟨a, o⟩, he⟩ : ∃ e, e = es.getD (m + 1) (0, 0) := ⟨_, rfl⟩
      obtain ⟨ob, hob⟩ : ∃ e, e = (es.getD m (0, 0)).2 := ⟨_, rfl⟩
      rw [← he] at c0 c1 hnum
      rw [← hob] at b1 hnum2
      obtain ⟨n0, n1, n2, n3, n4⟩ := hnum
      obtain ⟨_, _, m2, m3, _⟩ := hnum2
      simp only at n0 n1 n2 n3 n4
      have hD : 0 ≤ dayOf (a, o) ∧ dayOf (a, o) ≤ 20000000000 := by unfold dayOf; simp only; omega
      obtain ⟨d0, d1⟩ := hD
      have HD := Lib.hid (fun W => rday_any a o n0 n1 W)
      have HE := Lib.hid he
      have HOB := Lib.hid hob
      have hw : IntKind.i64.wrap (dayOf (a, o) - 1) = dayOf (a, o) - 1 := IntWalk.i64_in _ (by omega)
      have hw2 : IntKind.i64.wrap (o - ob) = o - ob := IntWalk.i64_in _ (by omega)
      have hw3 : IntKind.i64.wrap ((m : Int) + 1 - 1) = (m : Int) := by rw [show (m : Int) + 1 - 1 = m by omega]; exact IntWalk.i64_in _ (by omega)
      have i1 : (0 : Int) ≤ (m : Int) + 1 := by omega
      have i2 : (m : Int) + 1 < (n : Int) := by omega
      have i0 : (0 : Int) ≤ (m : Int) := by omega
      have i3 : (m : Int) < (n : Int) := by omega
      clear he hob hcell hcells n4 b0
      rw [show ((m + 1 : Nat) : Int) = (m : Int) + 1 by omega]
      go_wp2_with fail
      refine (HD.out _).mono ?_
      rintro e w' ⟨rfl, hb1⟩
      obtain ⟨hcl, hfr⟩ := bcell hb1
      have r2' : w'.cell? ⟨w.heap.size, 2, none⟩ = some (.slice (some ⟨b, off, none⟩) n c) := (hcl _ _ (by omega)).trans r2
      have c1' : w'.cell? ⟨b, off + (m + 1) * 2 + 1, none⟩ = some (.int .i64 o) := (hcl _ _ (by omega)).trans c1
      have b1' : w'.cell? ⟨b, off + m * 2 + 1, none⟩ = some (.int .i64 ob) := (hcl _ _ (by omega)).trans b1
      have HB := Lib.hid (hbw.trans (hb1.mono hsz))
      clear hcl hfr hb1 r2 c1 c0 b1 hbw
      obtain ⟨D, hDe⟩ : ∃ D, D = dayOf (a, o) := ⟨_, rfl⟩
      rw [← hDe] at d0 d1 hw ⊢
      have HDE := Lib.hid hDe
      clear hDe
      by_cases hd : D - 1 = d
      · have g3 : (D - 1 == d) = true := by simp [hd]
        have hv2 : chgV es d = o - ob := by rw [HCF.out (m + 1) (by omega) hlt (by rw [← HE.out, ← HDE.out]; exact hd), ← HE.out, Nat.add_sub_cancel, ← HOB.out]
        have HV2 := Lib.hid hv2
        have HBW := Lib.hid (below_to HB1.out HB.out)
        clear hd hv2
        go_wp2
        go_quiet (fail)
        go_wp2
        go_ret
        exact ⟨by rw [HV2.out]; rfl, below_drN HBW.out _⟩
      · have g3 : (D - 1 == d) = false := by simp [hd]
        have HDN := Lib.hid hd
        clear hd
        go_wp2
        go_roundw
        case rel =>
          refine ⟨m + 1 + 1, by omega, by omega, by go_num, fun j h1 h2 h3 => ?_, HB.out⟩
          by_cases hj : j = m + 1
          · subst hj; rw [← HE.out, ← HDE.out]; exact HDN.out
          · exact hno.out j h1 (by omega) h3
        case measure => simp [intOf]; omega
    · have HB := Lib.hid (below_to HB1.out hbw)
      have hv2 := HCN.out (fun j h1 h2 => hno.out j h1 (by omega) h2)
      have HV2 := Lib.hid hv2
      clear hbw hv2
      go_wp2
      go_ret
      exact ⟨by rw [HV2.out]; rfl, HB.out⟩

set_option maxRecDepth 100000 in
set_option maxHeartbeats 1000000 in
theorem rat_any (v : Value) (es : List (Int × Int)) (u x d : Int) (w : World) (hv : Ents w w.heap.size v es) (hp : okPre es es.length = true) :
    Calls Try.prog 34 #[.agg #[.int .i64 u, .int .i64 x, v], .int .i64 d] w fun e w' => e = .returned (.int .i64 ((cnt startOf es d : Int) - 1)) ∧ Below w.heap.size w w' := by
  have hlen := okPre_len hp
  have HP := Lib.hid hp
  have hvv := hv
  obtain ⟨A, c, rfl, hc, hc2, hcells⟩ := hvv
  obtain ⟨w1, hw1, q0, q1, q2, hE1, hB1, s1⟩ := tbox w u x _ es hv
  have HU := Lib.hid (upto_start_all hp d)
  obtain ⟨n, hn⟩ : ∃ n, n = es.length := ⟨_, rfl⟩
  rw [← hn] at hc hcells hw1 q2 hE1 hlen HU ⊢
  have HN := Lib.hid hn
  have HE1 := Lib.hid hE1
  have HB1 := Lib.hid hB1
  clear hn hp hv hE1 hB1 hc2
  go_enter Try.func34, Try.ntmps34
  go_wp2
  rw [← hw1]
  clear hw1
  go_loopw [5, 6] (fun a i wr => ∃ k : Nat, k ≤ n ∧ a = .int .i64 ((upto startOf es d k : Int) - 1) ∧ i = .int .i64 k ∧ Below w1.heap.size w1 wr) (fun _ i _ => n - (intOf i).toNat)
  case atStart => exact ⟨0, Nat.zero_le _, rfl, rfl, Below.refl _ _⟩
  case round =>
    obtain ⟨k, hk, rfl, rfl, hbw⟩ := hrel
    have hsz := hbw.size
    have r2 : wr.cell? ⟨w.heap.size, 2, none⟩ = some (.slice A n c) := (hbw.cell (p := ⟨_, 2, none⟩) (by simp; omega)).trans q2
    by_cases hlt : k < n
    · obtain ⟨b, off, rfl, hb, hcell⟩ := hcells (by omega)
      obtain ⟨c0, c1⟩ := (HE1.out.below hbw).get HN.out k hlt
      have hnum := okPre_num HP.out (i := k) (by rw [← HN.out]; exact hlt)
      have hup : upto startOf es d (k + 1) = if startOf (es.getD k (0, 0)) ≤ d then k + 1 else upto startOf es d k := rfl
      obtain ⟨⟨a, o⟩, he⟩ : ∃ e, e = es.getD k (0, 0) := ⟨_, rfl⟩
      rw [← he] at c0 c1 hnum hup
      obtain ⟨n0, n1, n2, n3, n4⟩ := hnum
      simp only at n0 n1 n2 n3 n4
      have HD := Lib.hid (fun W => rstart_any a o n0 n1 n2 n3 W)
      have HE := Lib.hid he
      have HUP := Lib.hid hup
      clear he hcell hcells n4 hup
      go_wp2_with fail
      refine (HD.out _).mono ?_
      rintro e w' ⟨rfl, hb1⟩
      have HB := Lib.hid (hbw.trans (hb1.mono hsz))
      clear hb1 r2 c1 c0 hbw
      by_cases hd : startOf (a, o) ≤ d
      · have hu2 : upto startOf es d (k + 1) = k + 1 := by rw [HUP.out, if_pos hd]
        have HU2 := Lib.hid hu2
        clear hu2
        go_wp2
        go_roundw
        case rel => exact ⟨k + 1, by omega, by rw [HU2.out]; exact congrArg _ (by omega), by go_num, HB.out⟩
        case measure => simp [intOf]; omega
      · have hu2 : upto startOf es d (k + 1) = upto startOf es d k := by rw [HUP.out, if_neg hd]
        have HU2 := Lib.hid hu2
        clear hu2
        go_wp2
        go_roundw
        case rel => exact ⟨k + 1, by omega, by rw [HU2.out], by go_num, HB.out⟩
        case measure => simp [intOf]; omega
    · obtain rfl : k = n := by omega
      have HB := Lib.hid (below_to HB1.out hbw)
      clear hbw
      go_wp2
      go_ret
      exact ⟨by rw [← HU.out]; rfl, HB.out⟩
end Go.Proofs.Ytdbhgeihphjgeaa

/- Walks of the reference of layer 11 (ref10): Entry, Table, Same. -/
import Derived.Test.YtdbhgeihphjgeaaE2
namespace Go.Proofs.Ytdbhgeihphjgeaa
open Go.RowKit
set_option linter.unusedVariables false
set_option linter.unusedSimpArgs false

set_option maxRecDepth 100000 in
set_option maxHeartbeats 1000000 in
theorem rentry_any (v : Value) (es : List (Int × Int)) (a o : Int) (w : World) (B : Nat) (hB : B ≤ w.heap.size) (hv : Ents w B v es) (ha : I64 a) (ho : I64 o) (hes : ∀ x ∈ es, 0 ≤ x.2 ∧ x.2 ≤ 1000) :
    Calls Try.prog 63 #[v, .agg #[.int .i64 a, .int .i64 o]] w fun e w' => e = .returned (.bool (okE es (a, o))) ∧ Below w.heap.size w w' := by
  obtain ⟨A, c, rfl, hc, hc2, hcells⟩ := hv
  unfold I64 at ha ho
  obtain ⟨ha0, ha1⟩ := ha
  obtain ⟨ho0, ho1⟩ := ho
  by_cases c1 : es.length < 64
  case neg =>
    have h1 : (64 : Int) ≤ (es.length : Int) := by omega
    have hr : okE es (a, o) = false := by simp [okE, c1]
    rw [hr]; clear hr hcells c1 hes
    generalize es.length = n at *
    go_enter Try.func63, Try.ntmps63
    go_wp2
    go_ret
    exact ⟨rfl, (by repeat (first | exact Below.refl _ _ | assumption | refine below_al ?_ _ | refine below_dr ?_ | refine below_drN ?_ _ | refine below_set ?_ (by simp; try omega) _ | (refine below_to ?_ (by assumption))))⟩
  have h1 : ¬ (64 : Int) ≤ (es.length : Int) := by omega
  by_cases a0 : 0 ≤ a
  case neg =>
    have hr : okE es (a, o) = false := by simp [okE, inB, a0]
    have a0' : a < 0 := by omega
    rw [hr]; clear hr hcells c1 hes a0
    generalize es.length = n at *
    go_enter Try.func63, Try.ntmps63
    go_wp2
    go_ret
    exact ⟨rfl, (by repeat (first | exact Below.refl _ _ | assumption | refine below_al ?_ _ | refine below_dr ?_ | refine below_drN ?_ _ | refine below_set ?_ (by simp; try omega) _ | (refine below_to ?_ (by assumption))))⟩
  by_cases a1 : a ≤ 1125899906842624
  case neg =>
    have hr : okE es (a, o) = false := by simp [okE, inB, a1]
    have a1' : 1125899906842624 < a := by omega
    rw [hr]; clear hr hcells c1 hes a1
    generalize es.length = n at *
    go_enter Try.func63, Try.ntmps63
    go_wp2
    go_ret
    exact ⟨rfl, (by repeat (first | exact Below.refl _ _ | assumption | refine below_al ?_ _ | refine below_dr ?_ | refine below_drN ?_ _ | refine below_set ?_ (by simp; try omega) _ | (refine below_to ?_ (by assumption))))⟩
  by_cases c3 : a % 86400 = 0
  case neg =>
    have hr : okE es (a, o) = false := by simp [okE, c3]
    have h3 : (a % 86400 != 0) = true := by simpa using c3
    rw [hr]; clear hr hcells c1 hes c3
    generalize es.length = n at *
    go_enter Try.func63, Try.ntmps63
    go_wp2
    go_ret
    exact ⟨rfl, (by repeat (first | exact Below.refl _ _ | assumption | refine below_al ?_ _ | refine below_dr ?_ | refine below_drN ?_ _ | refine below_set ?_ (by simp; try omega) _ | (refine below_to ?_ (by assumption))))⟩
  have h3 : (a % 86400 != 0) = false := by simpa using c3
  by_cases o0 : 0 ≤ o
  case neg =>
    have hr : okE es (a, o) = false := by simp [okE, inB, o0]
    have o0' : o < 0 := by omega
    rw [hr]; clear hr hcells c1 hes c3 o0
    generalize es.length = n at *
    go_enter Try.func63, Try.ntmps63
    go_wp2
    go_ret
    exact ⟨rfl, (by repeat (first | exact Below.refl _ _ | assumption | refine below_al ?_ _ | refine below_dr ?_ | refine below_drN ?_ _ | refine below_set ?_ (by simp; try omega) _ | (refine below_to ?_ (by assumption))))⟩
  by_cases o1 : o ≤ 1000
  case neg =>
    have hr : okE es (a, o) = false := by simp [okE, inB, o1]
    have o1' : 1000 < o := by omega
    rw [hr]; clear hr hcells c1 hes c3 o1
    generalize es.length = n at *
    go_enter Try.func63, Try.ntmps63
    go_wp2
    go_ret
    exact ⟨rfl, (by repeat (first | exact Below.refl _ _ | assumption | refine below_al ?_ _ | refine below_dr ?_ | refine below_drN ?_ _ | refine below_set ?_ (by simp; try omega) _ | (refine below_to ?_ (by assumption))))⟩
  have c2 : inB a 1125899906842624 = true := by simp [inB, a0, a1]
  have c4 : inB o 1000 = true := by simp [inB, o0, o1]
  have a0' : ¬ a < 0 := by omega
  have a1' : ¬ 1125899906842624 < a := by omega
  have o0' : ¬ o < 0 := by omega
  have o1' : ¬ 1000 < o := by omega
  rcases List.eq_nil_or_concat es with rfl | ⟨ds, l, rfl⟩
  · have hr : okE [] (a, o) = true := by simp [okE, c2, c3, c4]
    rw [hr]; clear hr hcells c1 hes c3 c2 c4
    simp only [List.length_nil] at *
    go_enter Try.func63, Try.ntmps63
    go_wp2
    go_ret
    exact ⟨rfl, (by repeat (first | exact Below.refl _ _ | assumption | refine below_al ?_ _ | refine below_dr ?_ | refine below_drN ?_ _ | refine below_set ?_ (by simp; try omega) _ | (refine below_to ?_ (by assumption))))⟩
  · rw [List.concat_eq_append] at *
    obtain ⟨la, lo'⟩ := l
    have hl := hes (la, lo') (by simp)
    obtain ⟨hl0, hl1⟩ := hl
    have hl0' : 0 ≤ lo' := hl0
    have hl1' : lo' ≤ 1000 := hl1
    obtain ⟨b, off, rfl, hb, hcell⟩ := hcells (by simp)
    have hcc := hcell ds.length (by simp)
    simp only [List.getD_eq_getElem?_getD, List.getElem?_concat_length, Option.getD_some] at hcc
    obtain ⟨k0, k1⟩ := hcc
    have hfin : okE (ds ++ [(la, lo')]) (a, o) = (decide (la < a) && (o - lo' == 1 || o - lo' == -1)) := by
      rw [okE_last]; simp only [c2, c4]; simp only [List.length_append, List.length_cons, List.length_nil] at c1; simp [c3]; omega
    rw [hfin]
    clear hfin hcell hcells hes hl0 hl1 c3 c2 c4
    have hlen : (ds ++ [(la, lo')]).length = ds.length + 1 := by simp
    rw [hlen] at h1 hc c1 ⊢
    clear hlen
    generalize ds.length = n at *
    have hbl : b < w.heap.size := by omega
    go_enter Try.func63, Try.ntmps63
    go_wp2
    all_goals go_ret
    all_goals refine ⟨ret_b ?_, (by repeat (first | exact Below.refl _ _ | assumption | refine below_al ?_ _ | refine below_dr ?_ | refine below_drN ?_ _ | refine below_set ?_ (by simp; try omega) _ | (refine below_to ?_ (by assumption))))⟩
    all_goals (rw [Bool.eq_iff_iff]; simp; try omega)

set_option maxRecDepth 100000 in
set_option maxHeartbeats 2000000 in
/-- what the reference's Table answers -/
def RTabPost (b : Bool) (w : World) (e : Ending) (w' : World) : Prop := ∃ m : Int, e = .returned (.tuple #[.int .i64 m, .bool b]) ∧ Below w.heap.size w w'

set_option maxRecDepth 100000 in
set_option maxHeartbeats 2000000 in
theorem rtable_any (v : Value) (es : List (Int × Int)) (u x : Int) (w : World) (hv : Ents w w.heap.size v es) (hu : I64 u) (hx : I64 x) (hes : ∀ i, I64 (es.getD i (0, 0)).1 ∧ I64 (es.getD i (0, 0)).2) :
    Calls Try.prog 28 #[.agg #[.int .i64 u, .int .i64 x, v]] w (RTabPost (okT u x es) w) := by
  have hvv := hv
  obtain ⟨A, c, rfl, hc, hc2, hcells⟩ := hvv
  obtain ⟨w1, hw1, q0, q1, q2, hE1, hB1, s1⟩ := tbox w u x _ es hv
  obtain ⟨n, hn⟩ : ∃ n, n = es.length := ⟨_, rfl⟩
  rw [← hn] at hc hcells hw1 q2 hE1 ⊢
  have HN := Lib.hid hn
  have HE1 := Lib.hid hE1
  have HB1 := Lib.hid hB1
  have HS := Lib.hid hes
  clear hn hv hE1 hB1 hes
  go_enter Try.func28, Try.ntmps28
  go_wp2
  rw [← hw1]
  clear hw1
  go_loopw [4] (fun i wr => ∃ k : Nat, k ≤ n ∧ i = .int .i64 k ∧ Hid (okPre es k = true) ∧ Below w1.heap.size w1 wr) (fun i _ => n - (intOf i).toNat)
  case atStart => exact ⟨0, Nat.zero_le _, rfl, okPre_zero es, Below.refl _ _⟩
  case round =>
    obtain ⟨k, hk, rfl, hok, hbw⟩ := hrel
    have hsz := hbw.size
    have r2 : wr.cell? ⟨w.heap.size, 2, none⟩ = some (.slice A n c) := (hbw.cell (p := ⟨_, 2, none⟩) (by simp; omega)).trans q2
    have r0 : wr.cell? ⟨w.heap.size, 0, none⟩ = some (.int .i64 u) := (hbw.cell (p := ⟨_, 0, none⟩) (by simp; omega)).trans q0
    have r1 : wr.cell? ⟨w.heap.size, 1, none⟩ = some (.int .i64 x) := (hbw.cell (p := ⟨_, 1, none⟩) (by simp; omega)).trans q1
    by_cases hlt : k < n
    · obtain ⟨b, off, rfl, hb, hcell⟩ := hcells (by omega)
      have hev := HE1.out.below hbw
      obtain ⟨c0, c1⟩ := hev.get HN.out k hlt
      have ho := HS.out k
      obtain ⟨⟨a, o⟩, he⟩ : ∃ e, e = es.getD k (0, 0) := ⟨_, rfl⟩
      rw [← he] at c0 c1 ho
      have hek : Ents wr w1.heap.size (.slice (some ⟨b, off, none⟩) k c) (es.take k) := by
        rw [show (Value.slice (some ⟨b, off, none⟩) n c) = .slice (some ⟨b, off, none⟩) es.length c by rw [HN.out]] at hev
        exact hev.take k (by rw [← HN.out]; omega)
      have hoff := okPre_off hok.out (by rw [← HN.out]; omega)
      have hcall := fun W (hB : w1.heap.size ≤ W.heap.size) (hE : Ents W w1.heap.size (.slice (some ⟨b, off, none⟩) k c) (es.take k)) => rentry_any (.slice (some ⟨b, off, none⟩) k c) (es.take k) a o W w1.heap.size hB hE ho.1 ho.2 hoff
      have hokE : okPre es (k + 1) = okE (es.take k) (a, o) := by rw [okPre_succ, hok.out, ← he]; simp
      have HC := Lib.hid hcall
      have HE := Lib.hid he
      have HEK := Lib.hid hek
      have HOK := Lib.hid hokE
      have hbl : b < wr.heap.size := by omega
      have hwl : w.heap.size < wr.heap.size := by omega
      have i1 : (0 : Int) ≤ (k : Int) := by omega
      have i2 : (k : Int) ≤ (c : Int) := by omega
      have i3 : (k : Int) < (n : Int) := by omega
      clear hcall he hek hokE hcell hcells hoff ho hev
      go_wp2
      go_region_held3 (fun w' => w'.cell? ⟨w.heap.size, 2, none⟩ = some (.slice (some ⟨b, off, none⟩) n c) ∧ w'.cell? ⟨b, off + k * 2, none⟩ = some (.int .i64 a) ∧ w'.cell? ⟨b, off + k * 2 + 1, none⟩ = some (.int .i64 o)) (go_keep)
        (first | (go_at_call 63; refine (HC.out _ ?c1 ?c2).mono ?_; (case c1 => simp; omega); (case c2 => exact HEK.out.below (Below.mono (B := wr.heap.size) (by repeat (first | exact Below.refl _ _ | assumption | refine below_al ?_ _ | refine below_dr ?_ | refine below_drN ?_ _ | refine below_set ?_ (by simp; try omega) _ | (refine below_to ?_ (by assumption)))) (by omega))); rintro e w' ⟨rfl, hb1⟩; have t2 := (hb1.cell (p := ⟨w.heap.size, 2, none⟩) hwl).trans r2; have t0 := (hb1.cell (p := ⟨b, off + k * 2, none⟩) hbl).trans c0; have t1 := (hb1.cell (p := ⟨b, off + k * 2 + 1, none⟩) hbl).trans c1))
      have hbw' : Below w1.heap.size w1 w' := hbw.trans ((below_dr (Below.refl _ _)).mono hsz |>.trans (hb1.mono (by simp; omega)))
      have HBW := Lib.hid hbw'
      have HBB := Lib.hid (below_to HB1.out hbw')
      clear hbw' hb1
      cases hE : okE (es.take k) (a, o)
      · have hT : okT u x es = false := by
          have h1 : okPre es (k + 1) = false := HOK.out.trans hE
          have h2 : okPre es es.length = false := by
            cases h3 : okPre es es.length with
            | false => rfl
            | true => rw [okPre_mono h3 (by rw [← HN.out]; omega)] at h1; cases h1
          simp [okT, h2]
        have HT := Lib.hid hT
        clear hT
        go_wp2
        go_ret2
        exact ⟨k, by rw [HT.out]; rfl, HBB.out⟩
      · have h1 : okPre es (k + 1) = true := HOK.out.trans hE
        have H1 := Lib.hid h1
        clear h1
        go_wp2
        go_roundw
        case rel => exact ⟨k + 1, by omega, by go_num, H1.out, HBW.out⟩
        case measure => simp [intOf]; omega
    · obtain rfl : k = n := by omega
      have HBB := Lib.hid (below_to HB1.out hbw)
      have hT : okT u x es = (decide (0 < k) && inB u 999999999999999999 && inB x 999999999999999999) := by
        unfold okT; rw [← HN.out, hok.out]
        cases es with
        | nil => have := HN.out; simp at this; subst this; simp
        | cons e r =>
          have h2 : 0 < k := by rw [HN.out]; simp
          simp [h2]
      have HT := Lib.hid hT
      clear hT hbw hcells
      by_cases p0 : 0 < k
      · by_cases p1 : 0 ≤ u
        · by_cases p2 : u < 1000000000000000000
          · by_cases p3 : 0 ≤ x
            · by_cases p4 : x < 1000000000000000000
              · go_wp2
                go_ret2
                exact ⟨_, by rw [HT.out, show (decide (0 < k) && inB u 999999999999999999 && inB x 999999999999999999) = true by simp [inB]; omega]; rfl, HBB.out⟩
              · go_wp2
                go_ret2
                exact ⟨_, by rw [HT.out, show (decide (0 < k) && inB u 999999999999999999 && inB x 999999999999999999) = false by simp [inB]; omega]; rfl, HBB.out⟩
            · go_wp2
              go_ret2
              exact ⟨_, by rw [HT.out, show (decide (0 < k) && inB u 999999999999999999 && inB x 999999999999999999) = false by simp [inB]; omega]; rfl, HBB.out⟩
          · go_wp2
            go_ret2
            exact ⟨_, by rw [HT.out, show (decide (0 < k) && inB u 999999999999999999 && inB x 999999999999999999) = false by simp [inB]; omega]; rfl, HBB.out⟩
        · go_wp2
          go_ret2
          exact ⟨_, by rw [HT.out, show (decide (0 < k) && inB u 999999999999999999 && inB x 999999999999999999) = false by simp [inB]; omega]; rfl, HBB.out⟩
      · go_wp2
        go_ret2
        exact ⟨_, by rw [HT.out, show (decide (0 < k) && inB u 999999999999999999 && inB x 999999999999999999) = false by simp [inB]; omega]; rfl, HBB.out⟩
end Go.Proofs.Ytdbhgeihphjgeaa

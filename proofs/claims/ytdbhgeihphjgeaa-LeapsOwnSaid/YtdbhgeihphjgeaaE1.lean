/- Walks of the reference of layer 12 (ref12): Day, Offset, Change, Start, At, of a table that may be. -/
import Derived.Test.YtdbhgeihphjgeaaD7
namespace Go.Proofs.Ytdbhgeihphjgeaa
open Go.RowKit
set_option linter.unusedVariables false
set_option linter.unusedSimpArgs false

/-! ### plain: where a rising test turns -/
theorem mono_cnt (p : Nat → Bool) : ∀ n : Nat, (∀ a b, a ≤ b → b < n → p a = true → p b = true) → ∀ i, i < n → (p i = false ↔ i < (List.range n).countP (fun i => !p i))
  | 0, _, i, hi => absurd hi (Nat.not_lt_zero _)
  | n + 1, hm, i, hi => by
    have hle : (List.range n).countP (fun i => !p i) ≤ n := by have := List.countP_le_length (l := List.range n) (p := fun i => !p i); simpa using this
    rw [List.range_succ, List.countP_append, List.countP_singleton]
    have ih := mono_cnt p n (fun a b h1 h2 h3 => hm a b h1 (by omega) h3)
    cases hn : p n with
    | true =>
      simp only [Bool.not_true, Bool.false_eq_true, if_false, Nat.add_zero]
      by_cases h : i < n
      · exact ih i h
      · obtain rfl : i = n := by omega
        rw [hn]; simp; omega
    | false =>
      simp only [Bool.not_false, if_true]
      have hall : ∀ j, j < n → p j = false := fun j hj => by
        cases h : p j with
        | false => rfl
        | true => have := hm j n (by omega) (by omega) h; rw [hn] at this; cases this
      have hc : (List.range n).countP (fun i => !p i) = n := by
        rw [List.countP_eq_length.2 (fun a ha => by rw [hall a (by simpa using ha)]; rfl)]; simp
      rw [hc]
      by_cases h : i < n
      · rw [hall i h]; simp; omega
      · obtain rfl : i = n := by omega
        rw [hn]; simp
theorem cnt_day {es : List (Int × Int)} (h : okPre es es.length = true) (d : Int) {i : Nat} (hi : i < es.length) : dayOf (es.getD i (0, 0)) ≤ d ↔ i < cnt dayOf es d := by
  have := mono_cnt (fun i => decide (d < dayOf (es.getD i (0, 0)))) es.length (fun a b hab hb hh => by have := (day_le h hab hb).1; simp only [decide_eq_true_eq] at hh ⊢; omega) i hi
  simp only [decide_eq_false_iff_not] at this
  unfold cnt; rw [← this]; omega
theorem cnt_start {es : List (Int × Int)} (h : okPre es es.length = true) (d : Int) {i : Nat} (hi : i < es.length) : startOf (es.getD i (0, 0)) ≤ d ↔ i < cnt startOf es d := by
  have := mono_cnt (fun i => decide (d < startOf (es.getD i (0, 0)))) es.length (fun a b hab hb hh => by have := (day_le h hab hb).2; simp only [decide_eq_true_eq] at hh ⊢; omega) i hi
  simp only [decide_eq_false_iff_not] at this
  unfold cnt; rw [← this]; omega
theorem cnt_chg {es : List (Int × Int)} (h : okPre es es.length = true) (d : Int) {i : Nat} (hi : i < es.length) : dayOf (es.getD i (0, 0)) - 1 < d ↔ i < cntC es d := by
  have := mono_cnt (fun i => decide (d ≤ dayOf (es.getD i (0, 0)) - 1)) es.length (fun a b hab hb hh => by have := (day_le h hab hb).1; simp only [decide_eq_true_eq] at hh ⊢; omega) i hi
  simp only [decide_eq_false_iff_not] at this
  unfold cntC; rw [← this]; omega
/-- what the reference's loops hold behind k rounds: the last entry among the first k that has begun: how many they are -/
def upto (f : Int × Int → Int) (es : List (Int × Int)) (d : Int) : Nat → Nat
  | 0 => 0
  | k + 1 => if f (es.getD k (0, 0)) ≤ d then k + 1 else upto f es d k
theorem upto_le (f : Int × Int → Int) (es : List (Int × Int)) (d : Int) : ∀ k, upto f es d k ≤ k
  | 0 => Nat.le_refl _
  | k + 1 => by have := upto_le f es d k; unfold upto; split <;> omega
theorem upto_day {es : List (Int × Int)} (h : okPre es es.length = true) (d : Int) : ∀ k, k ≤ es.length → upto dayOf es d k = min k (cnt dayOf es d)
  | 0, _ => by simp [upto]
  | k + 1, hk => by
    have h1 := upto_day h d k (by omega)
    have h2 := cnt_day h d (i := k) (by omega)
    unfold upto
    split <;> omega
theorem upto_start {es : List (Int × Int)} (h : okPre es es.length = true) (d : Int) : ∀ k, k ≤ es.length → upto startOf es d k = min k (cnt startOf es d)
  | 0, _ => by simp [upto]
  | k + 1, hk => by
    have h1 := upto_start h d k (by omega)
    have h2 := cnt_start h d (i := k) (by omega)
    unfold upto
    split <;> omega
theorem upto_day_all {es : List (Int × Int)} (h : okPre es es.length = true) (d : Int) : upto dayOf es d es.length = cnt dayOf es d := by
  have := upto_day h d es.length (Nat.le_refl _); have := cnt_le dayOf es d; omega
theorem upto_start_all {es : List (Int × Int)} (h : okPre es es.length = true) (d : Int) : upto startOf es d es.length = cnt startOf es d := by
  have := upto_start h d es.length (Nat.le_refl _); have := cnt_le startOf es d; omega
theorem chg_found {es : List (Int × Int)} (h : okPre es es.length = true) (d : Int) {k : Nat} (hk : 0 < k) (hn : k < es.length) (he : dayOf (es.getD k (0, 0)) - 1 = d) : chgV es d = (es.getD k (0, 0)).2 - (es.getD (k - 1) (0, 0)).2 := by
  have h1 := cnt_chg h d hn
  have h2 := cnt_chg h d (i := k - 1) (by omega)
  have h3 := (day_step h (k := k - 1) (by omega)).1
  rw [show k - 1 + 1 = k by omega] at h3
  have hc : cntC es d = k := by omega
  simp only [chgV]
  rw [if_neg (by omega), if_neg (by omega), hc, if_pos he]
theorem chg_none {es : List (Int × Int)} (d : Int) (hne : ∀ j, 0 < j → j < es.length → dayOf (es.getD j (0, 0)) - 1 ≠ d) : chgV es d = 0 := by
  have hc := cntC_le es d
  simp only [chgV]
  split
  · rfl
  · split
    · rfl
    · rw [if_neg (hne _ (by omega) (by omega))]

/-! ### a table as an argument -/
theorem Ents.get {w : World} {B : Nat} {b off n c : Nat} {es : List (Int × Int)} (h : Ents w B (.slice (some ⟨b, off, none⟩) n c) es) (hn : n = es.length) (i : Nat) (hi : i < n) :
    w.cell? ⟨b, off + i * 2, none⟩ = some (.int .i64 (es.getD i (0, 0)).1) ∧ w.cell? ⟨b, off + i * 2 + 1, none⟩ = some (.int .i64 (es.getD i (0, 0)).2) := by
  obtain ⟨A', c', e', h1', h2', h3'⟩ := h
  simp only [Value.slice.injEq] at e'
  obtain ⟨rfl, hx, rfl⟩ := e'
  obtain ⟨b', off', hA', hb', hcell'⟩ := h3' (by omega)
  simp only [Option.some.injEq, Addr.mk.injEq] at hA'
  obtain ⟨rfl, rfl, hx2⟩ := hA'
  exact hcell' i (by omega)
theorem tbox (w : World) (u x : Int) (v : Value) (es : List (Int × Int)) (hv : Ents w w.heap.size v es) :
    ∃ w1, w1 = w.alloc (.cells #[.int .i64 u, .int .i64 x, v] 24) ∧ w1.cell? ⟨w.heap.size, 0, none⟩ = some (.int .i64 u) ∧ w1.cell? ⟨w.heap.size, 1, none⟩ = some (.int .i64 x) ∧ w1.cell? ⟨w.heap.size, 2, none⟩ = some v ∧
      Ents w1 w1.heap.size v es ∧ Below w.heap.size w w1 ∧ w1.heap.size = w.heap.size + 1 :=
  ⟨_, rfl, by simp, by simp, by simp, (hv.below (below_al (Below.refl _ _) _)).mono (by simp), below_al (Below.refl _ _) _, by simp⟩

set_option maxHeartbeats 400000 in
theorem rday_any (a o : Int) (h0 : 0 ≤ a) (h1 : a ≤ 1125899906842624) (w : World) :
    Calls Try.prog 31 #[.agg #[.int .i64 a, .int .i64 o]] w fun e w' => e = .returned (.int .i64 (dayOf (a, o))) ∧ Below w.heap.size w w' := by
  go_enter Try.func31, Try.ntmps31
  go_wp2
  go_ret
  exact ⟨rfl, (by repeat (first | exact Below.refl _ _ | assumption | refine below_al ?_ _ | refine below_dr ?_ | refine below_drN ?_ _ | refine below_set ?_ (by simp; try omega) _ | (refine below_to ?_ (by assumption))))⟩
set_option maxHeartbeats 400000 in
theorem rstart_any (a o : Int) (h0 : 0 ≤ a) (h1 : a ≤ 1125899906842624) (o0 : 0 ≤ o) (o1 : o ≤ 1000) (w : World) :
    Calls Try.prog 66 #[.agg #[.int .i64 a, .int .i64 o]] w fun e w' => e = .returned (.int .i64 (startOf (a, o))) ∧ Below w.heap.size w w' := by
  have hd : 0 ≤ dayOf (a, o) ∧ dayOf (a, o) ≤ 20000000000 := by unfold dayOf; omega
  have hs : startOf (a, o) = dayOf (a, o) * 86400 + o := rfl
  have HS := Lib.hid hs
  have HD := Lib.hid (fun W => rday_any a o h0 h1 W)
  obtain ⟨D, hD⟩ : ∃ D, D = dayOf (a, o) := ⟨_, rfl⟩
  rw [← hD] at hd
  obtain ⟨d0, d1⟩ := hd
  have hw1 : IntKind.i64.wrap (D * 86400) = D * 86400 := IntWalk.i64_in _ (by omega)
  have hw2 : IntKind.i64.wrap (D * 86400 + o) = D * 86400 + o := IntWalk.i64_in _ (by omega)
  have HDD := Lib.hid hD
  clear hs hD
  go_enter Try.func66, Try.ntmps66
  go_wp2
  go_region_held3 (fun w' => w'.cell? ⟨w.heap.size, 0, none⟩ = some (.int .i64 a) ∧ w'.cell? ⟨w.heap.size, 1, none⟩ = some (.int .i64 o)) (go_keep)
    (first | (go_at_call 31; refine (HD.out _).mono ?_; rintro e w' ⟨rfl, hb1⟩; rw [← HDD.out]; obtain ⟨hcl, hfr⟩ := bcell hb1))
  go_wp2
  go_ret
  exact ⟨by rw [HS.out, ← HDD.out]; rfl, (by repeat (first | exact Below.refl _ _ | assumption | refine below_al ?_ _ | refine below_dr ?_ | refine below_drN ?_ _ | refine below_set ?_ (by simp; try omega) _ | (refine below_to ?_ (by assumption))))⟩

def rOff (es : List (Int × Int)) (k : Nat) : Int := if k = 0 then 0 else (es.getD (k - 1) (0, 0)).2
def rOk (k : Nat) : Bool := !(k == 0)

set_option maxRecDepth 100000 in
set_option maxHeartbeats 1000000 in
theorem roffset_any (v : Value) (es : List (Int × Int)) (u x d : Int) (w : World) (hv : Ents w w.heap.size v es) (hp : okPre es es.length = true) :
    Calls Try.prog 24 #[.agg #[.int .i64 u, .int .i64 x, v], .int .i64 d] w fun e w' => e = .returned (.tuple #[.int .i64 (rOff es (cnt dayOf es d)), .bool (rOk (cnt dayOf es d))]) ∧ Below w.heap.size w w' := by
  have hlen := okPre_len hp
  have HP := Lib.hid hp
  have hvv := hv
  obtain ⟨A, c, rfl, hc, hc2, hcells⟩ := hvv
  obtain ⟨w1, hw1, q0, q1, q2, hE1, hB1, s1⟩ := tbox w u x _ es hv
  have HU := Lib.hid (upto_day_all hp d)
  obtain ⟨n, hn⟩ : ∃ n, n = es.length := ⟨_, rfl⟩
  rw [← hn] at hc hcells hw1 q2 hE1 hlen HU ⊢
  have HN := Lib.hid hn
  have HE1 := Lib.hid hE1
  have HB1 := Lib.hid hB1
  clear hn hp hv hE1 hB1 hc2
  go_enter Try.func24, Try.ntmps24
  go_wp2
  rw [← hw1]
  clear hw1
  go_loopw [6, 7, 8] (fun a b i wr => ∃ k : Nat, k ≤ n ∧ a = .int .i64 (rOff es (upto dayOf es d k)) ∧ b = .bool (rOk (upto dayOf es d k)) ∧ i = .int .i64 k ∧ Below w1.heap.size w1 wr) (fun _ _ i _ => n - (intOf i).toNat)
  case atStart => exact ⟨0, Nat.zero_le _, rfl, rfl, rfl, Below.refl _ _⟩
  case round =>
    obtain ⟨k, hk, rfl, rfl, rfl, hbw⟩ := hrel
    have hsz := hbw.size
    have r2 : wr.cell? ⟨w.heap.size, 2, none⟩ = some (.slice A n c) := (hbw.cell (p := ⟨_, 2, none⟩) (by simp; omega)).trans q2
    by_cases hlt : k < n
    · obtain ⟨b, off, rfl, hb, hcell⟩ := hcells (by omega)
      obtain ⟨c0, c1⟩ := (HE1.out.below hbw).get HN.out k hlt
      have hnum := okPre_num HP.out (i := k) (by rw [← HN.out]; exact hlt)
      have hup : upto dayOf es d (k + 1) = if dayOf (es.getD k (0, 0)) ≤ d then k + 1 else upto dayOf es d k := rfl
      obtain ⟨⟨a, o⟩, he⟩ : ∃ e, e = es.getD k (0, 0) := ⟨_, rfl⟩
      rw [← he] at c0 c1 hnum hup
      obtain ⟨n0, n1, n2, n3, n4⟩ := hnum
      simp only at n0 n1 n2 n3 n4
      have HD := Lib.hid (fun W => rday_any a o n0 n1 W)
      have HE := Lib.hid he
      have HUP := Lib.hid hup
      clear he hcell hcells n4 hup
      go_wp2_with fail
      refine (HD.out _).mono ?_
      rintro e w' ⟨rfl, hb1⟩
      obtain ⟨hcl, hfr⟩ := bcell hb1
      have r2' : w'.cell? ⟨w.heap.size, 2, none⟩ = some (.slice (some ⟨b, off, none⟩) n c) := (hcl _ _ (by omega)).trans r2
      have c1' : w'.cell? ⟨b, off + k * 2 + 1, none⟩ = some (.int .i64 o) := (hcl _ _ (by omega)).trans c1
      have HB := Lib.hid (hbw.trans (hb1.mono hsz))
      clear hcl hfr hb1 r2 c1 c0 hbw
      by_cases hd : dayOf (a, o) ≤ d
      · have hu2 : upto dayOf es d (k + 1) = k + 1 := by rw [HUP.out, if_pos hd]
        have HU2 := Lib.hid hu2
        clear hu2
        go_wp2
        go_roundw
        case rel => exact ⟨k + 1, by omega, by rw [HU2.out]; simp only [rOff]; rw [if_neg (by omega), Nat.add_sub_cancel, ← HE.out], by rw [HU2.out]; rfl, by go_num, HB.out⟩
        case measure => simp [intOf]; omega
      · have hu2 : upto dayOf es d (k + 1) = upto dayOf es d k := by rw [HUP.out, if_neg hd]
        have HU2 := Lib.hid hu2
        clear hu2
        go_wp2
        go_roundw
        case rel => exact ⟨k + 1, by omega, by rw [HU2.out], by rw [HU2.out], by go_num, HB.out⟩
        case measure => simp [intOf]; omega
    · obtain rfl : k = n := by omega
      have HB := Lib.hid (below_to HB1.out hbw)
      clear hbw
      go_wp2
      go_ret2
      exact ⟨by rw [← HU.out]; rfl, HB.out⟩
end Go.Proofs.Ytdbhgeihphjgeaa

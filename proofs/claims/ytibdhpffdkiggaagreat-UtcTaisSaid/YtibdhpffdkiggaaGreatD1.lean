/- Walks of package list's Check: which tables may be. -/
import Derived.Test.YtibdhpffdkiggaaGreatB
namespace Go.Proofs.YtibdhpffdkiggaaGreat
open Go.RowKit
set_option linter.unusedVariables false
set_option linter.unusedSimpArgs false

/-- A slice of entries (two cells an element) that reads as es, and lies below block B. -/
def Ents (w : World) (B : Nat) (v : Value) (es : List (Int × Int)) : Prop :=
  ∃ A c, v = .slice A es.length c ∧ es.length ≤ c ∧ c ≤ 9223372036854775807 ∧ (0 < es.length → ∃ b off, A = some ⟨b, off, none⟩ ∧ b < B ∧
    ∀ i, i < es.length → w.cell? ⟨b, off + i * 2, none⟩ = some (.int .i64 (es.getD i (0, 0)).1) ∧ w.cell? ⟨b, off + i * 2 + 1, none⟩ = some (.int .i64 (es.getD i (0, 0)).2))
/-- numbers of 64 bits -/
def I64 (x : Int) : Prop := -9223372036854775808 ≤ x ∧ x ≤ 9223372036854775807
def inB (n m : Int) : Bool := decide (0 ≤ n) && decide (n ≤ m)
/-- may an entry stand behind others? -/
def okE (es : List (Int × Int)) (e : Int × Int) : Bool :=
  decide (es.length < 64) && inB e.1 1125899906842624 && (e.1 % 86400 == 0) && inB e.2 1000 &&
    match es.getLast? with
    | none => true
    | some l => decide (l.1 < e.1) && (e.2 - l.2 == 1 || e.2 - l.2 == -1)

theorem within_any (n m : Int) (w : World) :
    Calls Tryz.prog 42 #[.int .i64 n, .int .i64 m] w fun e w' => e = .returned (.bool (inB n m)) ∧ w = w' := by
  by_cases h : 0 ≤ n
  · go_enter Tryz.func42, Tryz.ntmps42
    go_wp2
    go_ret
    exact ⟨by simp [inB, h], rfl⟩
  · go_enter Tryz.func42, Tryz.ntmps42
    go_wp2
    go_ret
    exact ⟨ret_b (by simp [inB]; omega), rfl⟩

theorem okE_last (ds : List (Int × Int)) (l e : Int × Int) : okE (ds ++ [l]) e = (decide (ds.length + 1 < 64) && inB e.1 1125899906842624 && (e.1 % 86400 == 0) && inB e.2 1000 && (decide (l.1 < e.1) && (e.2 - l.2 == 1 || e.2 - l.2 == -1))) := by simp [okE]

set_option maxHeartbeats 400000 in
theorem behind_any (v : Value) (es : List (Int × Int)) (a o : Int) (w : World) (B : Nat) (hB : B ≤ w.heap.size) (hv : Ents w B v es) (ha : I64 a) (ho : I64 o) (hes : ∀ x ∈ es, 0 ≤ x.2 ∧ x.2 ≤ 1000) :
    Calls Tryz.prog 41 #[v, .agg #[.int .i64 a, .int .i64 o]] w fun e w' => e = .returned (.bool (okE es (a, o))) ∧ Below w.heap.size w w' := by
  obtain ⟨A, c, rfl, hc, hc2, hcells⟩ := hv
  unfold I64 at ha ho
  obtain ⟨ha0, ha1⟩ := ha
  obtain ⟨ho0, ho1⟩ := ho
  by_cases c1 : es.length < 64
  case neg =>
    have h1 : (64 : Int) ≤ (es.length : Int) := by omega
    have hr : okE es (a, o) = false := by simp [okE, c1]
    rw [hr]; clear hr hcells c1 hes
    generalize es.length = n at *
    go_enter Tryz.func41, Tryz.ntmps41
    go_wp2_with ((go_at_call 42; refine (within_any _ _ _).mono ?_; rintro e w' ⟨rfl, rfl⟩))
    go_ret
    exact ⟨rfl, (by repeat (first | exact Below.refl _ _ | assumption | refine below_al ?_ _ | refine below_dr ?_ | refine below_drN ?_ _ | refine below_set ?_ (by simp; try omega) _ | (refine below_to ?_ (by assumption))))⟩
  have h1 : ¬ (64 : Int) ≤ (es.length : Int) := by omega
  cases c2 : inB a 1125899906842624
  case false =>
    have hr : okE es (a, o) = false := by simp [okE, c2]
    rw [hr]; clear hr hcells c1 hes
    generalize es.length = n at *
    go_enter Tryz.func41, Tryz.ntmps41
    go_wp2_with ((go_at_call 42; refine (within_any _ _ _).mono ?_; rintro e w' ⟨rfl, rfl⟩))
    go_ret
    exact ⟨rfl, (by repeat (first | exact Below.refl _ _ | assumption | refine below_al ?_ _ | refine below_dr ?_ | refine below_drN ?_ _ | refine below_set ?_ (by simp; try omega) _ | (refine below_to ?_ (by assumption))))⟩
  have c2' : 0 ≤ a ∧ a ≤ 1125899906842624 := by simpa [inB] using c2
  obtain ⟨a0, a1⟩ := c2'
  by_cases c3 : a % 86400 = 0
  case neg =>
    have hr : okE es (a, o) = false := by simp [okE, c3]
    have h3 : (a % 86400 != 0) = true := by simpa using c3
    rw [hr]; clear hr hcells c1 hes c3
    generalize es.length = n at *
    go_enter Tryz.func41, Tryz.ntmps41
    go_wp2_with ((go_at_call 42; refine (within_any _ _ _).mono ?_; rintro e w' ⟨rfl, rfl⟩))
    go_ret
    exact ⟨rfl, (by repeat (first | exact Below.refl _ _ | assumption | refine below_al ?_ _ | refine below_dr ?_ | refine below_drN ?_ _ | refine below_set ?_ (by simp; try omega) _ | (refine below_to ?_ (by assumption))))⟩
  have h3 : (a % 86400 != 0) = false := by simpa using c3
  cases c4 : inB o 1000
  case false =>
    have hr : okE es (a, o) = false := by simp [okE, c4]
    rw [hr]; clear hr hcells c1 hes c3
    generalize es.length = n at *
    go_enter Tryz.func41, Tryz.ntmps41
    go_wp2_with ((go_at_call 42; refine (within_any _ _ _).mono ?_; rintro e w' ⟨rfl, rfl⟩))
    go_ret
    exact ⟨rfl, (by repeat (first | exact Below.refl _ _ | assumption | refine below_al ?_ _ | refine below_dr ?_ | refine below_drN ?_ _ | refine below_set ?_ (by simp; try omega) _ | (refine below_to ?_ (by assumption))))⟩
  have c4' : 0 ≤ o ∧ o ≤ 1000 := by simpa [inB] using c4
  obtain ⟨o0, o1⟩ := c4'
  rcases List.eq_nil_or_concat es with rfl | ⟨ds, l, rfl⟩
  · have hr : okE [] (a, o) = true := by simp [okE, c2, c3, c4]
    rw [hr]; clear hr hcells c1 hes c3
    simp only [List.length_nil] at *
    go_enter Tryz.func41, Tryz.ntmps41
    go_wp2_with ((go_at_call 42; refine (within_any _ _ _).mono ?_; rintro e w' ⟨rfl, rfl⟩))
    go_ret
    exact ⟨rfl, (by repeat (first | exact Below.refl _ _ | assumption | refine below_al ?_ _ | refine below_dr ?_ | refine below_drN ?_ _ | refine below_set ?_ (by simp; try omega) _ | (refine below_to ?_ (by assumption))))⟩
  · rw [List.concat_eq_append] at *
    obtain ⟨la, lo'⟩ := l
    have hl := hes (la, lo') (by simp)
    obtain ⟨hl0, hl1⟩ := hl
    have hl0' : 0 ≤ lo' := hl0
    have hl1' : lo' ≤ 1000 := hl1
    obtain ⟨b, off, rfl, hb, hcell⟩ := hcells (by simp)
    have hcc := hcell ds.length (by simp)
    simp only [List.getD_eq_getElem?_getD, List.getElem?_concat_length, Option.getD_some] at hcc
    obtain ⟨k0, k1⟩ := hcc
    have hfin : okE (ds ++ [(la, lo')]) (a, o) = (decide (la < a) && (o - lo' == 1 || o - lo' == -1)) := by
      rw [okE_last]; simp only [c2, c4]; simp only [List.length_append, List.length_cons, List.length_nil] at c1; simp [c3]; omega
    rw [hfin]
    clear hfin hcell hcells hes hl0 hl1 c3
    have hlen : (ds ++ [(la, lo')]).length = ds.length + 1 := by simp
    rw [hlen] at h1 hc c1 ⊢
    clear hlen
    generalize ds.length = n at *
    have hbl : b < w.heap.size := by omega
    go_enter Tryz.func41, Tryz.ntmps41
    go_wp2_with ((go_at_call 42; refine (within_any _ _ _).mono ?_; rintro e w' ⟨rfl, rfl⟩))
    all_goals go_ret
    all_goals refine ⟨ret_b ?_, (by repeat (first | exact Below.refl _ _ | assumption | refine below_al ?_ _ | refine below_dr ?_ | refine below_drN ?_ _ | refine below_set ?_ (by simp; try omega) _ | (refine below_to ?_ (by assumption))))⟩
    all_goals (rw [Bool.eq_iff_iff]; simp; try omega)

/-! ### Check -/
theorem Ents.take {w : World} {B : Nat} {A : Option Addr} {c : Nat} {es : List (Int × Int)} (h : Ents w B (.slice A es.length c) es) (k : Nat) (hk : k ≤ es.length) : Ents w B (.slice A k c) (es.take k) := by
  obtain ⟨A', c', e, h1, h2, h3⟩ := h
  simp only [Value.slice.injEq] at e
  obtain ⟨rfl, _, rfl⟩ := e
  have hl : (es.take k).length = k := by simp; omega
  refine ⟨A, c, by rw [hl], by omega, h2, fun hp => ?_⟩
  obtain ⟨b, off, hA, hb, hc⟩ := h3 (by omega)
  refine ⟨b, off, hA, hb, fun i hi => ?_⟩
  have hik : i < k := by omega
  have := hc i (by omega)
  rw [show (es.take k).getD i (0, 0) = es.getD i (0, 0) by simp [List.getD_eq_getElem?_getD, List.getElem?_take, hik]]
  exact this
theorem Ents.below {w w' : World} {B : Nat} {v : Value} {es : List (Int × Int)} (h : Ents w B v es) (hb : Below B w w') : Ents w' B v es := by
  obtain ⟨A, c, e, h1, h2, h3⟩ := h
  refine ⟨A, c, e, h1, h2, fun hp => ?_⟩
  obtain ⟨b, off, hA, hbB, hc⟩ := h3 hp
  refine ⟨b, off, hA, hbB, fun i hi => ?_⟩
  rw [hb.cell (p := ⟨b, _, none⟩) hbB, hb.cell (p := ⟨b, _, none⟩) hbB]
  exact hc i hi
theorem Ents.mono {w : World} {B B' : Nat} {v : Value} {es : List (Int × Int)} (h : Ents w B v es) (hB : B ≤ B') : Ents w B' v es := by
  obtain ⟨A, c, e, h1, h2, h3⟩ := h
  refine ⟨A, c, e, h1, h2, fun hp => ?_⟩
  obtain ⟨b, off, hA, hbB, hc⟩ := h3 hp
  exact ⟨b, off, hA, by omega, hc⟩

/-- the first k entries may be, one behind the other -/
def okPre (es : List (Int × Int)) (k : Nat) : Bool := (List.range k).all fun i => okE (es.take i) (es.getD i (0, 0))
/-- may a table be? -/
def okT (u x : Int) (es : List (Int × Int)) : Bool := okPre es es.length && !es.isEmpty && inB u 999999999999999999 && inB x 999999999999999999
def errT (b : Bool) : Int := if b then 0 else 10
theorem okPre_zero (es : List (Int × Int)) : okPre es 0 = true := rfl
theorem okPre_succ (es : List (Int × Int)) (k : Nat) : okPre es (k + 1) = (okPre es k && okE (es.take k) (es.getD k (0, 0))) := by
  unfold okPre; rw [List.range_succ, List.all_append]; simp
theorem okPre_mono {es : List (Int × Int)} {k n : Nat} (h : okPre es n = true) (hk : k ≤ n) : okPre es k = true := by
  unfold okPre at *; rw [List.all_eq_true] at *; intro i hi; exact h i (by simp at *; omega)
theorem okPre_at {es : List (Int × Int)} {k i : Nat} (h : okPre es k = true) (hi : i < k) : okE (es.take i) (es.getD i (0, 0)) = true := by
  unfold okPre at h; rw [List.all_eq_true] at h; exact h i (by simpa using hi)
theorem okE_off {es : List (Int × Int)} {e : Int × Int} (h : okE es e = true) : 0 ≤ e.2 ∧ e.2 ≤ 1000 ∧ 0 ≤ e.1 ∧ e.1 ≤ 1125899906842624 ∧ e.1 % 86400 = 0 ∧ es.length < 64 := by
  simp [okE, inB] at h; omega
theorem okPre_off {es : List (Int × Int)} {k : Nat} (h : okPre es k = true) (hk : k ≤ es.length) : ∀ x ∈ es.take k, 0 ≤ x.2 ∧ x.2 ≤ 1000 := by
  intro x hx
  obtain ⟨i, hi, rfl⟩ := List.mem_iff_getElem.1 hx
  have hik : i < k := by simp at hi; omega
  have := okE_off (okPre_at h hik)
  rw [List.getD_eq_getElem?_getD, List.getElem?_eq_getElem (by omega)] at this
  simp only [List.getElem_take]
  exact ⟨this.1, this.2.1⟩

/-- what Check answers: an error, or none -/
def CheckPost (b : Bool) (w : World) (e : Ending) (w' : World) : Prop := ∃ m : Int, e = .returned (.tuple #[.int .i64 m, .int .i64 (errT b)]) ∧ Below w.heap.size w w'

set_option maxHeartbeats 1000000 in
theorem check_any (v : Value) (es : List (Int × Int)) (u x : Int) (w : World) (hv : Ents w w.heap.size v es) (hu : I64 u) (hx : I64 x) (hes : ∀ i, I64 (es.getD i (0, 0)).1 ∧ I64 (es.getD i (0, 0)).2) :
    Calls Tryz.prog 15 #[.agg #[.int .i64 u, .int .i64 x, v]] w (CheckPost (okT u x es) w) := by
  have hv' := hv
  obtain ⟨A, c, rfl, hc, hc2, hcells⟩ := hv
  obtain ⟨n, hn⟩ : ∃ n, n = es.length := ⟨_, rfl⟩
  rw [← hn] at hc hcells hv' ⊢
  have hw := Below.refl (w.heap.size + 1) (w.alloc (.cells #[.int .i64 u, .int .i64 x, .slice A n c] 24))
  have HN := Lib.hid hn
  clear hn
  have hw0 : Below w.heap.size w (w.alloc (.cells #[.int .i64 u, .int .i64 x, .slice A n c] 24)) := below_al (Below.refl _ _) _
  have q0 : (w.alloc (.cells #[.int .i64 u, .int .i64 x, .slice A n c] 24)).cell? ⟨w.heap.size, 2, none⟩ = some (.slice A n c) := by simp
  have q1 : (w.alloc (.cells #[.int .i64 u, .int .i64 x, .slice A n c] 24)).cell? ⟨w.heap.size, 0, none⟩ = some (.int .i64 u) := by simp
  have q2 : (w.alloc (.cells #[.int .i64 u, .int .i64 x, .slice A n c] 24)).cell? ⟨w.heap.size, 1, none⟩ = some (.int .i64 x) := by simp
  have hv1 : Ents (w.alloc (.cells #[.int .i64 u, .int .i64 x, .slice A n c] 24)) (w.heap.size + 1) (.slice A n c) es := (hv'.below (below_al (Below.refl _ _) _)).mono (by omega)
  have s1 : (w.alloc (.cells #[.int .i64 u, .int .i64 x, .slice A n c] 24)).heap.size = w.heap.size + 1 := by simp
  have HV := Lib.hid hv1
  have HS := Lib.hid hes
  clear hv1 hv' hes
  go_enter Tryz.func15, Tryz.ntmps15
  go_wp2
  generalize (w.alloc (.cells #[.int .i64 u, .int .i64 x, .slice A n c] 24)) = w1 at *
  go_loopw [9] (fun i wr => ∃ k : Nat, k ≤ n ∧ i = .int .i64 k ∧ Hid (okPre es k = true) ∧ Below (w.heap.size + 1) w1 wr) (fun i _ => n - (intOf i).toNat)
  case atStart => exact ⟨0, Nat.zero_le _, rfl, okPre_zero es, hw⟩
  case round =>
    obtain ⟨k, hk, rfl, hok, hbw⟩ := hrel
    have hsz := hbw.size
    have r0 : wr.cell? ⟨w.heap.size, 2, none⟩ = some (.slice A n c) := (hbw.cell (p := ⟨_, 2, none⟩) (by simp)).trans q0
    have r1 : wr.cell? ⟨w.heap.size, 0, none⟩ = some (.int .i64 u) := (hbw.cell (p := ⟨_, 0, none⟩) (by simp)).trans q1
    have r2 : wr.cell? ⟨w.heap.size, 1, none⟩ = some (.int .i64 x) := (hbw.cell (p := ⟨_, 1, none⟩) (by simp)).trans q2
    by_cases hlt : k < n
    · obtain ⟨b, off, rfl, hb, hcell⟩ := hcells (by omega)
      obtain ⟨⟨a, o⟩, he⟩ : ∃ e, e = es.getD k (0, 0) := ⟨_, rfl⟩
      have hev := (HV.out.below hbw)
      have hek : Ents wr (w.heap.size + 1) (.slice (some ⟨b, off, none⟩) k c) (es.take k) := by
        rw [show (Value.slice (some ⟨b, off, none⟩) n c) = .slice (some ⟨b, off, none⟩) es.length c by rw [HN.out]] at hev
        exact hev.take k (by rw [← HN.out]; omega)
      obtain ⟨A', c', e', h1', h2', h3'⟩ := hev
      simp only [Value.slice.injEq] at e'
      obtain ⟨rfl, hx1, rfl⟩ := e'
      clear hx1
      obtain ⟨b', off', hA', hb', hcell'⟩ := h3' (by rw [← HN.out]; omega)
      simp only [Option.some.injEq, Addr.mk.injEq] at hA'
      obtain ⟨rfl, rfl, hx2⟩ := hA'
      clear hx2
      have hc' := hcell' k (by rw [← HN.out]; omega)
      have ho := HS.out k
      rw [← he] at hc' ho
      obtain ⟨c0, c1⟩ := hc'
      have hoff := okPre_off hok.out (by rw [← HN.out]; omega)
      have hcall := fun W (hB : w.heap.size + 1 ≤ W.heap.size) (hE : Ents W (w.heap.size + 1) (.slice (some ⟨b, off, none⟩) k c) (es.take k)) => behind_any (.slice (some ⟨b, off, none⟩) k c) (es.take k) a o W (w.heap.size + 1) hB hE ho.1 ho.2 hoff
      have hokE : okPre es (k + 1) = okE (es.take k) (a, o) := by rw [okPre_succ, hok.out, ← he]; simp
      have HC := Lib.hid hcall
      have HE := Lib.hid he
      have HEK := Lib.hid hek
      have HOK := Lib.hid hokE
      have HOFF := Lib.hid hoff
      clear hcall he hek hokE h3' hcell' hcell h2' h1' hcells hoff ho
      go_wp2
      have i1 : (0 : Int) ≤ (k : Int) := by omega
      have i3 : w.heap.size < wr.heap.size := by omega
      have i4 : w.heap.size < wr.heap.size + 1 := by omega
      have i2 : (k : Int) ≤ (c : Int) := by omega
      have e0 : (wr.alloc (.cells #[.int .i64 a, .int .i64 o] 72)).cell? ⟨w.heap.size, 2, none⟩ = some (.slice (some ⟨b, off, none⟩) n c) := by rw [World.cell?_alloc_lt _ _ _ (by simp; omega)]; exact r0
      go_region_held3 (fun w' => w'.cell? ⟨w.heap.size, 2, none⟩ = some (.slice (some ⟨b, off, none⟩) n c) ∧ w'.cell? ⟨wr.heap.size, 0, none⟩ = some (.int .i64 a) ∧ w'.cell? ⟨wr.heap.size, 1, none⟩ = some (.int .i64 o)) (go_keep)
        (first | (go_at_call 41; refine (HC.out _ ?c1 ?c2).mono ?_; (case c1 => simp; omega); (case c2 => exact HEK.out.below (Below.mono (B := wr.heap.size) (by repeat (first | exact Below.refl _ _ | assumption | refine below_al ?_ _ | refine below_dr ?_ | refine below_drN ?_ _ | refine below_set ?_ (by simp; try omega) _ | (refine below_to ?_ (by assumption)))) (by omega))); rintro e w' ⟨rfl, hb1⟩; obtain ⟨hcl, hfr⟩ := bcell hb1))
      have hbw' : Below (w.heap.size + 1) w1 w' := hbw.trans ((Below.drew ((Below.refl _ _).alloc (by omega) _)).trans (hb1.mono (by simp; omega)))
      have hbb : Below w.heap.size w w' := hw0.trans (hbw'.mono (by omega))
      have HBB := Lib.hid hbb
      have HBW := Lib.hid hbw'
      clear hbb hbw' hb1
      cases hE : okE (es.take k) (a, o)
      · have hT : okT u x es = false := by
          have h1 : okPre es (k + 1) = false := HOK.out.trans hE
          have h2 : okPre es es.length = false := by
            cases h3 : okPre es es.length with
            | false => rfl
            | true => rw [okPre_mono h3 (by rw [← HN.out]; omega)] at h1; cases h1
          simp [okT, h2]
        have HT := Lib.hid hT
        clear hT
        go_wp2
        go_ret2
        exact ⟨k, by rw [HT.out]; rfl, HBB.out⟩
      · have h1 : okPre es (k + 1) = true := HOK.out.trans hE
        have H1 := Lib.hid h1
        clear h1
        go_wp2
        go_roundw
        case rel => exact ⟨k + 1, by omega, by go_num, H1.out, HBW.out⟩
        case measure => simp [intOf]; omega
    · obtain rfl : k = n := by omega
      have hbb : Below w.heap.size w wr := hw0.trans (hbw.mono (by omega))
      have HBB := Lib.hid hbb
      have hT : okT u x es = (!es.isEmpty && inB u 999999999999999999 && inB x 999999999999999999) := by
        unfold okT; rw [← HN.out, hok.out]; simp
      have HT := Lib.hid hT
      clear hT hbb hbw
      by_cases hk0 : k = 0
      · subst hk0
        have he : es.isEmpty = true := by rw [List.isEmpty_iff, ← List.length_eq_zero_iff]; exact HN.out.symm
        have HE := Lib.hid he
        clear he
        go_wp2_with ((go_at_call 42; refine (within_any _ _ _).mono ?_; rintro e w' ⟨rfl, rfl⟩))
        go_ret2
        exact ⟨_, by rw [HT.out, HE.out]; rfl, HBB.out⟩
      · have he : es.isEmpty = false := by rw [Bool.eq_false_iff]; intro h; rw [List.isEmpty_iff, ← List.length_eq_zero_iff] at h; exact hk0 (HN.out.trans h)
        have hk1 : ((k : Int) == 0) = false := by simp; omega
        have HE := Lib.hid he
        clear he
        cases h1 : inB u 999999999999999999
        · go_wp2_with ((go_at_call 42; refine (within_any _ _ _).mono ?_; rintro e w' ⟨rfl, rfl⟩))
          go_ret2
          exact ⟨_, by rw [HT.out, HE.out, h1]; rfl, HBB.out⟩
        · cases h2 : inB x 999999999999999999
          · go_wp2_with ((go_at_call 42; refine (within_any _ _ _).mono ?_; rintro e w' ⟨rfl, rfl⟩))
            go_ret2
            exact ⟨_, by rw [HT.out, HE.out, h1, h2]; rfl, HBB.out⟩
          · go_wp2_with ((go_at_call 42; refine (within_any _ _ _).mono ?_; rintro e w' ⟨rfl, rfl⟩))
            go_ret2
            exact ⟨_, by rw [HT.out, HE.out, h1, h2]; rfl, HBB.out⟩
end Go.Proofs.YtibdhpffdkiggaaGreat

/- Plain laws of layer 14: segments, one behind the other. No program here but for its words for values. Own work. -/
import Derived.Test.YtdbhgeihphjgeaaC16
namespace Go.Proofs.Ytdbhgeihphjgeaa
set_option linter.unusedVariables false
set_option linter.unusedSimpArgs false

/-- a segment: its day, base, from, rate -/
structure Sg where
  d : Int
  b : Int
  f : Int
  r : Int
def sgi (l : List Sg) (i : Nat) : Sg := l.getD i ⟨0, 0, 0, 0⟩
def fS (s : Sg) (u : Int) : Int := fA (s.b * 100000000000) (jn s.f 0 0) (s.r * 100000000000) u
def gS (s : Sg) (t : Int) : Int := gA (s.b * 100000000000) (jn s.f 0 0) (s.r * 100000000000) t
/-- the day behind the last one of segment i -/
def untS (l : List Sg) (day : Int) (i : Nat) : Int := if i + 1 < l.length then (sgi l (i + 1)).d else day
/-- where segment i ends -/
def endS (l : List Sg) (day off : Int) (i : Nat) : Int := if i + 1 < l.length then fS (sgi l (i + 1)) (jn (sgi l (i + 1)).d 0 0) else jn day off 0
def begS (l : List Sg) (i : Nat) : Int := fS (sgi l i) (jn (sgi l i).d 0 0)
def szS (s : Sg) : Bool := wthn s.d (-1048576) 1048576 && wthn s.f (-1048576) 1048576 && wthn s.b (-1000000000) 1000000000 && wthn s.r 0 1000000
def szA (l : List Sg) (day : Int) (i : Nat) : Bool := szS (sgi l i) && decide ((sgi l i).d < untS l day i)
def stB (l : List Sg) (day off : Int) (i : Nat) : Bool := decide (fS (sgi l i) (jn (untS l day i - 1) 0 0) < endS l day off i) && decide (endS l day off i ≤ fS (sgi l i) (jn (untS l day i) 1 0))
def szH (l : List Sg) (day off : Int) : Bool := wthn l.length 1 32 && wthn day (-1048576) 1048576 && wthn off 0 1000
def szL (l : List Sg) (day off : Int) : Bool := szH l day off && (List.range l.length).all (szA l day)
/-- may segments be? -/
def mayS (l : List Sg) (day off : Int) : Bool := szL l day off && (List.range l.length).all (stB l day off)

theorem all_yes {n : Nat} {p : Nat → Bool} (h : ∀ i, i < n → p i = true) : (List.range n).all p = true := List.all_eq_true.2 fun i hi => h i (List.mem_range.1 hi)
theorem all_no {n i : Nat} {p : Nat → Bool} (hi : i < n) (h : p i = false) : (List.range n).all p = false := List.all_eq_false.2 ⟨i, List.mem_range.2 hi, by rw [h]; simp⟩
theorem all_at {n : Nat} {p : Nat → Bool} (h : (List.range n).all p = true) {i : Nat} (hi : i < n) : p i = true := List.all_eq_true.1 h i (List.mem_range.2 hi)
theorem wthn_iff {n l u : Int} : wthn n l u = true ↔ l ≤ n ∧ n ≤ u := by unfold wthn; simp

structure SgOk (s : Sg) : Prop where
  d0 : -1048576 ≤ s.d
  d1 : s.d ≤ 1048576
  f0 : -1048576 ≤ s.f
  f1 : s.f ≤ 1048576
  b0 : -1000000000 ≤ s.b
  b1 : s.b ≤ 1000000000
  r0 : 0 ≤ s.r
  r1 : s.r ≤ 1000000
theorem szS_ok {s : Sg} (h : szS s = true) : SgOk s := by
  simp only [szS, Bool.and_eq_true, wthn_iff] at h
  obtain ⟨⟨⟨⟨h1, h2⟩, h3, h4⟩, h5, h6⟩, h7, h8⟩ := h
  exact ⟨h1, h2, h3, h4, h5, h6, h7, h8⟩
structure LOk (l : List Sg) (day off : Int) : Prop where
  n0 : 0 < l.length
  n1 : l.length ≤ 32
  y0 : -1048576 ≤ day
  y1 : day ≤ 1048576
  o0 : 0 ≤ off
  o1 : off ≤ 1000
  seg : ∀ i, i < l.length → SgOk (sgi l i)
  unt : ∀ i, i < l.length → (sgi l i).d < untS l day i
theorem szL_ok {l : List Sg} {day off : Int} (h : szL l day off = true) : LOk l day off := by
  simp only [szL, szH, Bool.and_eq_true, wthn_iff] at h
  obtain ⟨⟨⟨⟨h1, h2⟩, h3, h4⟩, h5, h6⟩, h7⟩ := h
  have hs : ∀ i, i < l.length → szS (sgi l i) = true ∧ (sgi l i).d < untS l day i := fun i hi => by
    have := all_at h7 hi
    simpa [szA] using this
  exact ⟨by omega, by omega, h3, h4, h5, h6, fun i hi => szS_ok (hs i hi).1, fun i hi => (hs i hi).2⟩
structure MOk (l : List Sg) (day off : Int) : Prop extends LOk l day off where
  s0 : ∀ i, i < l.length → fS (sgi l i) (jn (untS l day i - 1) 0 0) < endS l day off i
  s1 : ∀ i, i < l.length → endS l day off i ≤ fS (sgi l i) (jn (untS l day i) 1 0)
theorem mayS_ok {l : List Sg} {day off : Int} (h : mayS l day off = true) : MOk l day off := by
  simp only [mayS, Bool.and_eq_true] at h
  have hs : ∀ i, i < l.length → stB l day off i = true := fun i hi => all_at h.2 hi
  refine ⟨szL_ok h.1, fun i hi => ?_, fun i hi => ?_⟩
  · have := hs i hi; simp only [stB, Bool.and_eq_true, decide_eq_true_eq] at this; exact this.1
  · have := hs i hi; simp only [stB, Bool.and_eq_true, decide_eq_true_eq] at this; exact this.2
theorem mayS_szL {l : List Sg} {day off : Int} (h : mayS l day off = true) : szL l day off = true := by
  simp only [mayS, Bool.and_eq_true] at h; exact h.1

/-! ### the loops' answers -/
/-- what 'sizes' asks of place i -/
def szR (l : List Sg) (i : Nat) : Bool := szS (sgi l i) && (Nat.beq i 0 || decide ((sgi l (i - 1)).d < (sgi l i).d))
theorem szR_szA {l : List Sg} {day : Int} (hn : 0 < l.length) : (decide ((sgi l (l.length - 1)).d < day) && (List.range l.length).all (szR l)) = (List.range l.length).all (szA l day) := by
  rw [Bool.eq_iff_iff]
  simp only [Bool.and_eq_true, decide_eq_true_eq]
  constructor
  · rintro ⟨h1, h2⟩
    refine all_yes fun i hi => ?_
    have hi2 := all_at h2 hi
    simp only [szR, Bool.and_eq_true] at hi2
    simp only [szA, Bool.and_eq_true, decide_eq_true_eq]
    refine ⟨hi2.1, ?_⟩
    unfold untS
    split
    · rename_i hlt
      have := all_at h2 hlt
      simp only [szR, Bool.and_eq_true, Bool.or_eq_true, decide_eq_true_eq, Nat.beq_eq] at this
      rcases this.2 with h3 | h3
      · omega
      · exact h3
    · rw [show i = l.length - 1 by omega]; exact h1
  · intro h
    have ha : ∀ i, i < l.length → szS (sgi l i) = true ∧ (sgi l i).d < untS l day i := fun i hi => by
      have := all_at h hi
      simpa [szA] using this
    refine ⟨?_, all_yes fun i hi => ?_⟩
    · have := (ha (l.length - 1) (by omega)).2
      unfold untS at this
      rw [if_neg (by omega)] at this
      exact this
    · simp only [szR, Bool.and_eq_true, Bool.or_eq_true, decide_eq_true_eq, Nat.beq_eq]
      refine ⟨(ha i hi).1, ?_⟩
      rcases Nat.eq_zero_or_pos i with h0 | h0
      · exact .inl h0
      · refine .inr ?_
        have := (ha (i - 1) (by omega)).2
        unfold untS at this
        rw [if_pos (by omega), show i - 1 + 1 = i by omega] at this
        exact this
/-- the last of the first n whose day is not behind x -/
def kS (l : List Sg) (x : Int) : Nat → Nat
  | 0 => 0
  | n + 1 => if (sgi l n).d ≤ x then n else kS l x n
/-- the first of n that does; n: none does -/
def fst1 (p : Nat → Bool) : Nat → Nat
  | 0 => 0
  | n + 1 => if fst1 p n < n then fst1 p n else if p n = true then n else n + 1
theorem fst1_le (p : Nat → Bool) (n : Nat) : fst1 p n ≤ n := by
  induction n with
  | zero => exact Nat.le_refl _
  | succ n ih => unfold fst1; split <;> (try split) <;> omega
theorem fst1_lt {p : Nat → Bool} {n i : Nat} (h : i < fst1 p n) : p i = false := by
  induction n with
  | zero => simp [fst1] at h
  | succ n ih =>
    have hle := fst1_le p n
    unfold fst1 at h
    split at h
    · exact ih h
    · split at h
      · exact ih (by omega)
      · rename_i h1 h2
        rcases Nat.lt_or_ge i n with h3 | h3
        · exact ih (by omega)
        · have : i = n := by omega
          subst this; simpa using h2
theorem fst1_at {p : Nat → Bool} {n : Nat} (h : fst1 p n < n) : p (fst1 p n) = true := by
  induction n with
  | zero => simp at h
  | succ n ih =>
    unfold fst1 at h ⊢
    split
    · rename_i h1; exact ih h1
    · split
      · rename_i h2; exact h2
      · rename_i h1 h2; rw [if_neg h1, if_neg h2] at h; omega
theorem fst1_eq {p : Nat → Bool} {n i : Nat} (hi : i < n) (h0 : ∀ j, j < i → p j = false) (h1 : p i = true) : fst1 p n = i := by
  have hle := fst1_le p n
  rcases Nat.lt_trichotomy (fst1 p n) i with h | h | h
  · have := fst1_at (p := p) (n := n) (by omega); rw [h0 _ h] at this; cases this
  · exact h
  · have := fst1_lt h; rw [h1] at this; cases this
theorem fst1_none {p : Nat → Bool} {n : Nat} (h0 : ∀ j, j < n → p j = false) : fst1 p n = n := by
  have hle := fst1_le p n
  rcases Nat.lt_or_ge (fst1 p n) n with h | h
  · have := fst1_at h; rw [h0 _ h] at this; cases this
  · omega

section
variable {l : List Sg} {day off : Int}
theorem LOk.asc (h : LOk l day off) {i j : Nat} (hij : i < j) (hj : j < l.length) : (sgi l i).d < (sgi l j).d := by
  induction j with
  | zero => omega
  | succ j ih =>
    have h1 := h.unt j (by omega)
    unfold untS at h1
    rw [if_pos (by omega)] at h1
    rcases Nat.lt_or_ge i j with h2 | h2
    · have := ih h2 (by omega); omega
    · rw [show i = j by omega]; exact h1
theorem LOk.unt_le (h : LOk l day off) {i j : Nat} (hij : i < j) (hj : j < l.length) : untS l day i ≤ (sgi l j).d := by
  unfold untS
  rw [if_pos (by omega)]
  rcases Nat.lt_or_ge (i + 1) j with h2 | h2
  · exact Int.le_of_lt (h.asc h2 hj)
  · rw [show i + 1 = j by omega]; exact Int.le_refl _
theorem LOk.unt_day (h : LOk l day off) {i : Nat} (hi : i < l.length) : untS l day i ≤ day := by
  have hl : (sgi l (l.length - 1)).d < day := by
    have := h.unt (l.length - 1) (by have := h.n0; omega)
    unfold untS at this
    rw [if_neg (by omega)] at this
    exact this
  unfold untS
  split
  · rename_i h1
    rcases Nat.lt_or_ge (i + 1) (l.length - 1) with h2 | h2
    · have := h.asc h2 (by omega); omega
    · rw [show i + 1 = l.length - 1 by omega]; omega
  · exact Int.le_refl _
theorem LOk.unt_ge (h : LOk l day off) {i : Nat} (hi : i < l.length) : -1048576 ≤ untS l day i := by
  have := h.unt i hi; have := (h.seg i hi).d0; omega
theorem LOk.d_lt (h : LOk l day off) {i : Nat} (hi : i < l.length) : (sgi l i).d < day := by
  have := h.unt i hi; have := h.unt_day hi; omega
/-- the one segment of a day -/
theorem LOk.one (h : LOk l day off) {x : Int} {i j : Nat} (hi : i < l.length) (hj : j < l.length) (h1 : (sgi l i).d ≤ x) (h2 : x < untS l day i) (h3 : (sgi l j).d ≤ x) (h4 : x < untS l day j) : i = j := by
  rcases Nat.lt_trichotomy i j with hc | hc | hc
  · have := h.unt_le hc hj; omega
  · exact hc
  · have := h.unt_le hc hi; omega
theorem kS_spec (h : LOk l day off) {x : Int} (h0 : (sgi l 0).d ≤ x) (n : Nat) (hn : n ≤ l.length) (hn0 : 0 < n) : kS l x n < n ∧ (sgi l (kS l x n)).d ≤ x ∧ ∀ j, kS l x n < j → j < n → x < (sgi l j).d := by
  induction n with
  | zero => omega
  | succ n ih =>
    unfold kS
    split
    · rename_i h1; exact ⟨by omega, h1, fun j hj hj2 => by omega⟩
    · rename_i h1
      rcases Nat.eq_zero_or_pos n with h2 | h2
      · subst h2; exact absurd h0 h1
      · obtain ⟨h3, h4, h5⟩ := ih (by omega) h2
        refine ⟨by omega, h4, fun j hj hj2 => ?_⟩
        rcases Nat.lt_or_ge j n with h6 | h6
        · exact h5 j hj h6
        · rw [show j = n by omega]; omega
theorem kS_in (h : LOk l day off) {x : Int} (h0 : (sgi l 0).d ≤ x) (h1 : x < day) : kS l x l.length < l.length ∧ (sgi l (kS l x l.length)).d ≤ x ∧ x < untS l day (kS l x l.length) := by
  obtain ⟨h2, h3, h4⟩ := kS_spec h h0 l.length (Nat.le_refl _) h.n0
  refine ⟨h2, h3, ?_⟩
  unfold untS
  split
  · rename_i h5; exact h4 _ (by omega) h5
  · exact h1
theorem kS_eq (h : LOk l day off) {x : Int} {i : Nat} (hi : i < l.length) (h2 : (sgi l i).d ≤ x) (h3 : x < untS l day i) : kS l x l.length = i := by
  have h0 : (sgi l 0).d ≤ x := by
    rcases Nat.eq_zero_or_pos i with h4 | h4
    · subst h4; exact h2
    · have := h.asc h4 hi; omega
  have hd := h.unt_day hi
  obtain ⟨h4, h5, h6⟩ := kS_in h h0 (by omega)
  exact h.one h4 hi h5 h6 h2 h3
/-- .. and the first one whose last day x is not behind -/
theorem fst_kS (h : LOk l day off) {x : Int} (h0 : (sgi l 0).d ≤ x) {i : Nat} (hi : i < l.length) (h1 : ∀ j, j < i → untS l day j ≤ x) (h2 : x < untS l day i) : i = kS l x l.length := by
  refine (kS_eq h hi ?_ h2).symm
  rcases Nat.eq_zero_or_pos i with h4 | h4
  · subst h4; exact h0
  · have := h1 (i - 1) (by omega)
    unfold untS at this
    rw [if_pos (by omega), show i - 1 + 1 = i by omega] at this
    exact this
end

/-! ### sizes -/
/-- a count of days that are not far -/
def Cn (u : Int) : Prop := -200000000000000000000000000000 ≤ u ∧ u ≤ 200000000000000000000000000000
theorem Cn.near {u : Int} (h : Cn u) : Near u := by unfold Cn at h; unfold Near; omega
theorem cn_jn {d s a : Int} (hd : -1048577 ≤ d) (hd1 : d ≤ 1048577) (hs : -172800 ≤ s) (hs1 : s ≤ 172800) (ha : 0 ≤ a) (ha1 : a ≤ 1000000000000000000) : Cn (jn d s a) := by unfold Cn jn; omega
theorem SgOk.pc {s : Sg} (h : SgOk s) : PcOk (s.b * 100000000000) (jn s.f 0 0) (s.r * 100000000000) := by
  have := h.b0; have := h.b1; have := h.f0; have := h.f1; have := h.r0; have := h.r1
  unfold PcOk jn; omega
theorem SgOk.ra {s : Sg} (h : SgOk s) : 0 ≤ s.r * 100000000000 := by have := h.r0; omega
theorem gain_le {b f r u : Int} (h : PcOk b f r) (h1 : -400000000000000000000000000000 ≤ u) (h2 : u ≤ 400000000000000000000000000000) : -600000000000000000000000 ≤ (u - f) * r / dayA ∧ (u - f) * r / dayA ≤ 600000000000000000000000 := by
  have := mul_abs (a := u - f) (b := r) (A := 500000000000000000000000000000) (B := 100000000000000000) (by unfold PcOk at h; omega) (by unfold PcOk at h; omega) (by unfold PcOk at h; omega) (by unfold PcOk at h; omega) (by omega)
  constructor
  · refine Int.le_ediv_of_mul_le dayA_pos ?_
    unfold dayA; omega
  · refine Int.ediv_le_of_le_mul dayA_pos ?_
    unfold dayA; omega
theorem fS_bd {s : Sg} (h : SgOk s) {u : Int} (hu : Cn u) : u - 700000000000000000000000 ≤ fS s u ∧ fS s u ≤ u + 700000000000000000000000 := by
  have h1 := gain_le (u := u) h.pc (by unfold Cn at hu; omega) (by unfold Cn at hu; omega)
  have h2 := h.pc
  unfold fS fA PcOk at *
  omega
theorem LOk.end_bd {l : List Sg} {day off : Int} (h : LOk l day off) {i : Nat} (hi : i < l.length) : -100000000000000000000000000000 ≤ endS l day off i ∧ endS l day off i ≤ 100000000000000000000000000000 := by
  unfold endS
  split
  · rename_i h1
    have hs := h.seg (i + 1) h1
    have h2 : Cn (jn (sgi l (i + 1)).d 0 0) := by have := hs.d0; have := hs.d1; exact cn_jn (by omega) (by omega) (by omega) (by omega) (by omega) (by omega)
    have h3 := fS_bd hs h2
    have := hs.d0; have := hs.d1
    unfold jn at *; omega
  · have := h.y0; have := h.y1; have := h.o0; have := h.o1
    unfold jn; omega
theorem fS_le {s : Sg} (h : SgOk s) {u v : Int} : fS s u ≤ fS s v ↔ u ≤ v := fA_le h.ra
theorem fS_lt {s : Sg} (h : SgOk s) {u v : Int} : fS s u < fS s v ↔ u < v := by
  have := fS_le h (u := v) (v := u); omega
theorem gS_spec {s : Sg} (h : SgOk s) (t u : Int) : fS s u ≤ t ↔ u ≤ gS s t := gA_spec h.ra t u
theorem gS_fS {s : Sg} (h : SgOk s) (u : Int) : gS s (fS s u) = u := gA_fA h.ra u
theorem fS_gS {s : Sg} (h : SgOk s) (t : Int) : fS s (gS s t) = t ∨ fS s (gS s t) = t - 1 := fA_gA h.ra h.pc.rd t
theorem gS_bd {s : Sg} (h : SgOk s) {t : Int} (h1 : -110000000000000000000000000000 ≤ t) (h2 : t ≤ 110000000000000000000000000000) : t - 700000000000000000000001 ≤ gS s t ∧ gS s t ≤ t + 700000000000000000000000 := by
  constructor
  · refine (gS_spec h t _).1 ?_
    have := fS_bd h (u := t - 700000000000000000000001) (by unfold Cn; omega); omega
  · rcases Int.lt_or_le (t + 700000000000000000000000) (gS s t) with hc | hc
    · have h3 := (gS_spec h t (t + 700000000000000000000000 + 1)).2 (by omega)
      have := fS_bd h (u := t + 700000000000000000000000 + 1) (by unfold Cn; omega); omega
    · exact hc

/-! ### instants of labels, labels of instants -/
def formS (s a : Int) : Bool := formB s a
def taiE (l : List Sg) (day off d s a : Int) : Int :=
  if formB s a = false then 1 else if d < (sgi l 0).d then 8 else if day ≤ d then 9
  else if (s = 86400 ∧ d + 1 ≠ untS l day (kS l d l.length)) ∨ endS l day off (kS l d l.length) ≤ fS (sgi l (kS l d l.length)) (jn d s a) then 6 else 0
def taiV (l : List Sg) (day off d s a : Int) : Int := if taiE l day off d s a = 0 then fS (sgi l (kS l d l.length)) (jn d s a) else 0
def lblD (t u : Int) : Int := if t ≤ splD u then splD u - 1 else splD u
def lblS (t u : Int) : Int := if t ≤ splD u then splS u + 86400 else splS u
theorem lbl_eq (t u : Int) : lbl t u = vL (lblD t u) (lblS t u) (splA u) := by unfold lbl lblD lblS; split <;> rfl
/-- which segment an instant is of -/
def iS (l : List Sg) (day off t : Int) : Nat := fst1 (fun i => decide (t < endS l day off i)) l.length
def labE (l : List Sg) (day off t : Int) : Int := if t < begS l 0 then 8 else if iS l day off t < l.length then 0 else 9
def labU (l : List Sg) (day off t : Int) : Int := gS (sgi l (iS l day off t)) t
def labD (l : List Sg) (day off t : Int) : Int := if labE l day off t = 0 then lblD (untS l day (iS l day off t)) (labU l day off t) else 0
def labS (l : List Sg) (day off t : Int) : Int := if labE l day off t = 0 then lblS (untS l day (iS l day off t)) (labU l day off t) else 0
def labA (l : List Sg) (day off t : Int) : Int := if labE l day off t = 0 then splA (labU l day off t) else 0

section
variable {l : List Sg} {day off : Int}
theorem MOk.beg_end (h : MOk l day off) {i : Nat} (hi : i < l.length) : begS l i < endS l day off i := by
  have h1 := h.s0 i hi
  have h2 := h.unt i hi
  have h3 : begS l i ≤ fS (sgi l i) (jn (untS l day i - 1) 0 0) := (fS_le (h.seg i hi)).2 (by unfold jn; omega)
  omega
theorem MOk.end_le (h : MOk l day off) {i j : Nat} (hij : i < j) (hj : j < l.length) : endS l day off i ≤ begS l j := by
  induction j with
  | zero => omega
  | succ j ih =>
    have h1 : endS l day off j = begS l (j + 1) := by unfold endS; rw [if_pos hj]; rfl
    rcases Nat.lt_or_ge i j with h2 | h2
    · have := ih h2 (by omega); have := h.beg_end (i := j) (by omega); omega
    · rw [show i = j by omega]; omega
theorem MOk.beg_le (h : MOk l day off) {j : Nat} (hj : j < l.length) : begS l 0 ≤ begS l j := by
  rcases Nat.eq_zero_or_pos j with h0 | h0
  · subst h0; exact Int.le_refl _
  · have := h.end_le h0 hj; have := h.beg_end (i := 0) (by omega); omega
theorem tai_ok (h : MOk l day off) {d s a : Int} (he : taiE l day off d s a = 0) :
    (0 ≤ s ∧ s ≤ 86400) ∧ (0 ≤ a ∧ a < 1000000000000000000) ∧ kS l d l.length < l.length ∧ (sgi l (kS l d l.length)).d ≤ d ∧ d < untS l day (kS l d l.length) ∧ (s = 86400 → d + 1 = untS l day (kS l d l.length)) ∧ fS (sgi l (kS l d l.length)) (jn d s a) < endS l day off (kS l d l.length) ∧ taiV l day off d s a = fS (sgi l (kS l d l.length)) (jn d s a) := by
  have hv : taiV l day off d s a = fS (sgi l (kS l d l.length)) (jn d s a) := by unfold taiV; rw [if_pos he]
  unfold taiE at he
  split at he
  · cases he
  rename_i h1
  split at he
  · cases he
  rename_i h2
  split at he
  · cases he
  rename_i h3
  split at he
  · cases he
  rename_i h4
  obtain ⟨k1, k2, k3⟩ := kS_in h.toLOk (x := d) (by omega) (by omega)
  have h5 : formB s a = true := by simpa using h1
  simp only [formB, Bool.and_eq_true, wthn_iff] at h5
  refine ⟨h5.1, ⟨h5.2.1, by omega⟩, k1, k2, k3, fun hs => ?_, ?_, hv⟩
  · rcases Decidable.em (d + 1 = untS l day (kS l d l.length)) with h6 | h6
    · exact h6
    · exact absurd (.inl ⟨hs, h6⟩) h4
  · have : ¬ endS l day off (kS l d l.length) ≤ fS (sgi l (kS l d l.length)) (jn d s a) := fun h6 => h4 (.inr h6)
    omega
theorem tai_mk (h : MOk l day off) {d s a : Int} {i : Nat} (hi : i < l.length) (h1 : 0 ≤ s ∧ s ≤ 86400) (h2 : 0 ≤ a ∧ a < 1000000000000000000) (h3 : (sgi l i).d ≤ d) (h4 : d < untS l day i) (h5 : s = 86400 → d + 1 = untS l day i) (h6 : fS (sgi l i) (jn d s a) < endS l day off i) :
    taiE l day off d s a = 0 ∧ taiV l day off d s a = fS (sgi l i) (jn d s a) := by
  have hk := kS_eq h.toLOk hi h3 h4
  have hf : formB s a = true := by simp only [formB, Bool.and_eq_true, wthn_iff]; omega
  have h0 : (sgi l 0).d ≤ d := by
    rcases Nat.eq_zero_or_pos i with h7 | h7
    · subst h7; exact h3
    · have := h.toLOk.asc h7 hi; omega
  have hd := h.toLOk.unt_day hi
  have he : taiE l day off d s a = 0 := by
    unfold taiE
    rw [if_neg (by rw [hf]; simp), if_neg (by omega), if_neg (by omega), hk, if_neg]
    rintro (⟨h7, h8⟩ | h7)
    · exact h8 (h5 h7)
    · omega
  refine ⟨he, ?_⟩
  unfold taiV
  rw [if_pos he, hk]
theorem lab_mk (h : MOk l day off) {t : Int} {i : Nat} (hi : i < l.length) (h1 : begS l i ≤ t) (h2 : t < endS l day off i) : labE l day off t = 0 ∧ iS l day off t = i := by
  have hI : iS l day off t = i := fst1_eq hi (fun j hj => by
    have := h.end_le hj hi
    exact decide_eq_false (by omega)) (decide_eq_true h2)
  refine ⟨?_, hI⟩
  have := h.beg_le hi
  unfold labE
  rw [if_neg (by omega), hI, if_pos hi]
theorem lab_ok (h : MOk l day off) {t : Int} (he : labE l day off t = 0) : iS l day off t < l.length ∧ begS l (iS l day off t) ≤ t ∧ t < endS l day off (iS l day off t) := by
  unfold labE at he
  split at he
  · cases he
  rename_i h1
  split at he
  · rename_i h2
    refine ⟨h2, ?_, by have := fst1_at h2; exact of_decide_eq_true this⟩
    rcases Nat.eq_zero_or_pos (iS l day off t) with h3 | h3
    · rw [h3]; omega
    · have h4 : iS l day off t - 1 < iS l day off t := by omega
      have := fst1_lt h4
      have h5 := of_decide_eq_false this
      unfold endS at h5
      rw [if_pos (by omega), show iS l day off t - 1 + 1 = iS l day off t by omega] at h5
      unfold begS; omega
  · cases he
/-- a label comes again out of its instant -/
theorem tai_lab (h : MOk l day off) {d s a : Int} (he : taiE l day off d s a = 0) : labE l day off (taiV l day off d s a) = 0 ∧ labD l day off (taiV l day off d s a) = d ∧ labS l day off (taiV l day off d s a) = s ∧ labA l day off (taiV l day off d s a) = a := by
  obtain ⟨hs, ha, hk, h1, h2, h3, h4, h5⟩ := tai_ok h he
  obtain ⟨k, hkk⟩ : ∃ k, k = kS l d l.length := ⟨_, rfl⟩
  rw [← hkk] at hk h1 h2 h3 h4 h5
  have hb : begS l k ≤ taiV l day off d s a := by rw [h5]; exact (fS_le (h.seg k hk)).2 (by unfold jn; omega)
  obtain ⟨e1, e2⟩ := lab_mk h hk hb (by rw [h5]; exact h4)
  have e3 : labU l day off (taiV l day off d s a) = jn d s a := by unfold labU; rw [e2, h5, gS_fS (h.seg k hk)]
  refine ⟨e1, ?_⟩
  unfold labD labS labA
  rw [if_pos e1, if_pos e1, if_pos e1, e2, e3]
  rcases Int.lt_or_le s 86400 with hc | hc
  · obtain ⟨f1, f2, f3⟩ := spl_jn (d := d) hs.1 hc ha.1 ha.2
    unfold lblD lblS
    rw [f1, f2, f3, if_neg (by omega), if_neg (by omega)]
    exact ⟨rfl, rfl, rfl⟩
  · have hs' : s = 86400 := by omega
    have hd := h3 hs'
    have e4 : jn d s a = jn (d + 1) 0 a := by unfold jn; omega
    obtain ⟨f1, f2, f3⟩ := spl_jn (d := d + 1) (s := 0) (a := a) (by omega) (by omega) ha.1 ha.2
    unfold lblD lblS
    rw [e4, f1, f2, f3, if_pos (by omega), if_pos (by omega)]
    exact ⟨by omega, by omega, rfl⟩
/-- an instant is that of its label, or one attosecond behind it -/
theorem lab_tai (h : MOk l day off) {t : Int} (he : labE l day off t = 0) :
    taiE l day off (labD l day off t) (labS l day off t) (labA l day off t) = 0 ∧ (taiV l day off (labD l day off t) (labS l day off t) (labA l day off t) = t ∨ taiV l day off (labD l day off t) (labS l day off t) (labA l day off t) = t - 1) := by
  obtain ⟨h1, h2, h3⟩ := lab_ok h he
  have eD : labD l day off t = lblD (untS l day (iS l day off t)) (labU l day off t) := by unfold labD; rw [if_pos he]
  have eS : labS l day off t = lblS (untS l day (iS l day off t)) (labU l day off t) := by unfold labS; rw [if_pos he]
  have eA : labA l day off t = splA (labU l day off t) := by unfold labA; rw [if_pos he]
  have eU : labU l day off t = gS (sgi l (iS l day off t)) t := rfl
  rw [eD, eS, eA]
  obtain ⟨i, hi⟩ : ∃ i, i = iS l day off t := ⟨_, rfl⟩
  obtain ⟨u, hu⟩ : ∃ u, u = labU l day off t := ⟨_, rfl⟩
  rw [← hi] at h1 h2 h3 eU ⊢
  rw [← hu] at eU ⊢
  have hs := h.seg i h1
  have u0 : jn (sgi l i).d 0 0 ≤ u := by rw [eU]; exact (gS_spec hs t _).1 h2
  have u1 : fS (sgi l i) u ≤ t := by rw [eU]; exact (gS_spec hs t _).2 (Int.le_refl _)
  have u2 : u < jn (untS l day i) 1 0 := by
    have := h.s1 i h1
    exact (fS_lt hs).1 (by omega)
  have u3 : jn (splD u) (splS u) (splA u) = u := jn_spl u
  have u4 := spl_in u
  have hor : fS (sgi l i) u = t ∨ fS (sgi l i) u = t - 1 := by rw [eU]; exact fS_gS hs t
  have hd0 : (sgi l i).d ≤ splD u := by unfold jn at u0; unfold splD; omega
  have hd1 : splD u ≤ untS l day i := by unfold jn at u2; unfold splD; omega
  have hun := h.unt i h1
  have key : ∀ d s, d = lblD (untS l day i) u → s = lblS (untS l day i) u → (0 ≤ s ∧ s ≤ 86400) ∧ (sgi l i).d ≤ d ∧ d < untS l day i ∧ (s = 86400 → d + 1 = untS l day i) ∧ jn d s (splA u) = u := by
    intro d s hd hs2
    unfold lblD at hd
    unfold lblS at hs2
    by_cases hc : untS l day i ≤ splD u
    · rw [if_pos hc] at hd hs2
      have : splD u = untS l day i := by omega
      have hs0 : splS u = 0 := by
        have h7 : splD u * 86400 + splS u = u / 1000000000000000000 := by unfold splD splS; omega
        have h8 : u / 1000000000000000000 < untS l day i * 86400 + 1 := by unfold jn at u2; omega
        omega
      refine ⟨by omega, by omega, by omega, fun _ => by omega, ?_⟩
      rw [hd, hs2, ← u3]
      obtain ⟨p, hp⟩ : ∃ p, p = splD u := ⟨_, rfl⟩
      rw [u3, ← hp]
      have : jn p (splS u) (splA u) = u := by rw [hp]; exact u3
      unfold jn at *; omega
    · rw [if_neg hc] at hd hs2
      refine ⟨by omega, by omega, by omega, fun h => by omega, ?_⟩
      rw [hd, hs2]; exact u3
  obtain ⟨k1, k2, k3, k4, k5⟩ := key _ _ rfl rfl
  obtain ⟨r1, r2⟩ := tai_mk h h1 k1 ⟨u4.2.2.1, u4.2.2.2⟩ k2 k3 k4 (by rw [k5]; omega)
  refine ⟨r1, ?_⟩
  rw [r2, k5]
  exact hor
/-- is a label ahead of another one? -/
def befL (d s a d' s' a' : Int) : Bool := if d = d' then (if s = s' then decide (a < a') else decide (s < s')) else decide (d < d')
theorem tai_rises (h : MOk l day off) {d s a d' s' a' : Int} (hb : befL d s a d' s' a' = true) (he : taiE l day off d s a = 0) (he' : taiE l day off d' s' a' = 0) : taiV l day off d s a < taiV l day off d' s' a' := by
  obtain ⟨hs, ha, hk, h1, h2, h3, h4, h5⟩ := tai_ok h he
  obtain ⟨hs', ha', hk', h1', h2', h3', h4', h5'⟩ := tai_ok h he'
  rw [h5, h5']
  obtain ⟨k, hkk⟩ : ∃ k, k = kS l d l.length := ⟨_, rfl⟩
  obtain ⟨k', hkk'⟩ : ∃ k, k = kS l d' l.length := ⟨_, rfl⟩
  rw [← hkk] at hk h1 h2 h3 h4 h5 ⊢
  rw [← hkk'] at hk' h1' h2' h3' h4' h5' ⊢
  have hdd : d ≤ d' := by
    unfold befL at hb
    split at hb
    · omega
    · have := of_decide_eq_true hb; omega
  rcases Nat.lt_trichotomy k k' with hc | hc | hc
  · have e1 := h.end_le hc hk'
    have e2 : begS l k' ≤ fS (sgi l k') (jn d' s' a') := (fS_le (h.seg k' hk')).2 (by unfold jn; omega)
    omega
  · subst hc
    refine (fS_lt (h.seg k hk)).2 ?_
    unfold befL at hb
    split at hb
    · rename_i hd
      split at hb
      · have := of_decide_eq_true hb; unfold jn; omega
      · have := of_decide_eq_true hb; unfold jn; omega
    · have := of_decide_eq_true hb
      have : s < 86400 := by
        rcases Int.lt_or_le s 86400 with h6 | h6
        · exact h6
        · have := h3 (by omega); omega
      unfold jn; omega
  · have := h.toLOk.unt_le hc hk; omega
end
/-- the published ones -/
def pubS : List Sg := [⟨37300, 14228180, 37300, 12960⟩, ⟨37512, 13728180, 37300, 12960⟩, ⟨37665, 18458580, 37665, 11232⟩, ⟨38334, 19458580, 37665, 11232⟩, ⟨38395, 32401300, 38761, 12960⟩, ⟨38486, 33401300, 38761, 12960⟩, ⟨38639, 34401300, 38761, 12960⟩, ⟨38761, 35401300, 38761, 12960⟩, ⟨38820, 36401300, 38761, 12960⟩, ⟨38942, 37401300, 38761, 12960⟩, ⟨39004, 38401300, 38761, 12960⟩, ⟨39126, 43131700, 39126, 25920⟩, ⟨39887, 42131700, 39126, 25920⟩]
end Go.Proofs.Ytdbhgeihphjgeaa

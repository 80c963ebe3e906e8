/- The plain law of whole numbers by digits to the base 65536, the least first. No program in sight. Own work. -/
import Derived.IntWalk
namespace Go.Proofs.Ytdfkghpgekmmlaa

/-- the number that digits stand for -/
def nat : List Int → Int
  | [] => 0
  | d :: r => d + 65536 * nat r
/-- each is a digit -/
def Rg (ds : List Int) : Prop := ∀ d ∈ ds, 0 ≤ d ∧ d < 65536
def digsN (n : Nat) : List Int := if h : n = 0 then [] else ((n % 65536 : Nat) : Int) :: digsN (n / 65536)
termination_by n
decreasing_by omega
/-- a number's digits, its sign left off -/
def digs (z : Int) : List Int := digsN z.natAbs
theorem Rg.nil : Rg [] := fun d h => by cases h
theorem Rg.cons {d : Int} {r : List Int} : Rg (d :: r) ↔ (0 ≤ d ∧ d < 65536) ∧ Rg r := by
  unfold Rg; simp
theorem Rg.append {a b : List Int} : Rg (a ++ b) ↔ Rg a ∧ Rg b := by
  unfold Rg
  constructor
  · exact fun h => ⟨fun d hd => h d (List.mem_append.2 (.inl hd)), fun d hd => h d (List.mem_append.2 (.inr hd))⟩
  · rintro ⟨h1, h2⟩ d hd
    rcases List.mem_append.1 hd with h | h
    · exact h1 d h
    · exact h2 d h
theorem Rg.take {a : List Int} (h : Rg a) (n : Nat) : Rg (a.take n) := fun d hd => h d (List.mem_of_mem_take hd)
theorem Rg.getD {a : List Int} (h : Rg a) (n : Nat) : 0 ≤ a.getD n 0 ∧ a.getD n 0 < 65536 := by
  rw [List.getD_eq_getElem?_getD]
  cases hn : a[n]? with
  | none => simp
  | some d => exact h d (List.mem_of_getElem? hn)
theorem Rg.set {a : List Int} (h : Rg a) (n : Nat) {d : Int} (hd : 0 ≤ d ∧ d < 65536) : Rg (a.set n d) := fun x hx => by
  rcases List.mem_or_eq_of_mem_set hx with h1 | h1
  · exact h x h1
  · subst h1; exact hd
theorem nat_nonneg {ds : List Int} (h : Rg ds) : 0 ≤ nat ds := by
  induction ds with
  | nil => exact Int.le_refl _
  | cons d r ih =>
    have := Rg.cons.1 h
    have := ih this.2
    simp only [nat]; omega
theorem nat_lt {ds : List Int} (h : Rg ds) : nat ds < 65536 ^ ds.length := by
  induction ds with
  | nil => simp [nat]
  | cons d r ih =>
    have h1 := Rg.cons.1 h
    have h2 := ih h1.2
    simp only [nat, List.length_cons, Int.pow_succ]
    omega
theorem nat_append (a b : List Int) : nat (a ++ b) = nat a + 65536 ^ a.length * nat b := by
  induction a with
  | nil => simp [nat]
  | cons d r ih =>
    simp only [List.cons_append, nat, ih, List.length_cons, Int.pow_succ]
    rw [Int.mul_add, Int.mul_comm (65536 ^ r.length) 65536, Int.mul_assoc]
    omega
theorem nat_take_succ (ds : List Int) {i : Nat} (hi : i < ds.length) : nat (ds.take (i + 1)) = nat (ds.take i) + 65536 ^ i * ds.getD i 0 := by
  rw [List.take_add_one, List.getElem?_eq_getElem hi, nat_append]
  have : (ds.take i).length = i := by simp; omega
  simp [this, nat, List.getD_eq_getElem?_getD, List.getElem?_eq_getElem hi]
theorem nat_take_all (ds : List Int) {i : Nat} (hi : ds.length ≤ i) : nat (ds.take i) = nat ds := by rw [List.take_of_length_le hi]
theorem nat_split (ds : List Int) (i : Nat) : nat ds = nat (ds.take i) + 65536 ^ (ds.take i).length * nat (ds.drop i) := by
  rw [← nat_append, List.take_append_drop]
theorem nat_replicate (n : Nat) : nat (List.replicate n 0) = 0 := by
  induction n with
  | zero => rfl
  | succ n ih => simp [List.replicate_succ, nat, ih]
theorem nat_set {ds : List Int} {i : Nat} (hi : i < ds.length) (d : Int) : nat (ds.set i d) = nat ds + 65536 ^ i * (d - ds.getD i 0) := by
  induction ds generalizing i with
  | nil => simp at hi
  | cons x r ih =>
    cases i with
    | zero => simp [nat]; omega
    | succ i =>
      have := ih (i := i) (by simpa using hi)
      simp only [List.set_cons_succ, nat, this, Int.pow_succ, List.getD_cons_succ]
      rw [Int.mul_add, ← Int.mul_assoc, Int.mul_comm 65536 (65536 ^ i)]
      omega
/-- no nought at the end -/
def Can : List Int → Prop
  | [] => True
  | [d] => d ≠ 0
  | _ :: r => Can r
theorem can_snoc (l : List Int) (d : Int) : Can (l ++ [d]) ↔ d ≠ 0 := by
  induction l with
  | nil => simp [Can]
  | cons x r ih =>
    cases r with
    | nil => simp [Can]
    | cons y s => simpa [Can] using ih
theorem nat_zero_can {l : List Int} (h : Rg l) (hc : Can l) (h0 : nat l = 0) : l = [] := by
  induction l with
  | nil => rfl
  | cons d r ih =>
    exfalso
    have h1 := Rg.cons.1 h
    have h2 := nat_nonneg h1.2
    simp only [nat] at h0
    cases r with
    | nil => simp [Can] at hc; simp [nat] at h0; omega
    | cons y s =>
      have := ih h1.2 hc (by omega)
      cases this
theorem digs_zero : digs 0 = [] := by unfold digs; rw [digsN]; rfl
theorem digs_nat {l : List Int} (h : Rg l) (hc : Can l) : digs (nat l) = l := by
  induction l with
  | nil => exact digs_zero
  | cons d r ih =>
    have h1 := Rg.cons.1 h
    have h2 := nat_nonneg h1.2
    have hcr : Can r := by cases r with
      | nil => trivial
      | cons y s => exact hc
    have h0 : nat (d :: r) ≠ 0 := fun e => by have := nat_zero_can h hc e; cases this
    have h3 := nat_nonneg h
    have ih := ih h1.2 hcr
    unfold digs at ih ⊢
    rw [digsN, dif_neg (by omega)]
    have e1 : (((nat (d :: r)).natAbs % 65536 : Nat) : Int) = d := by simp only [nat] at h3 ⊢; omega
    have e2 : (nat (d :: r)).natAbs / 65536 = (nat r).natAbs := by simp only [nat] at h3 ⊢; omega
    rw [e1, e2, ih]
theorem digsN_spec (n : Nat) : nat (digsN n) = n ∧ Rg (digsN n) ∧ Can (digsN n) := by
  induction n using Nat.strongRecOn with
  | _ n ih =>
    rw [digsN]
    by_cases hn : n = 0
    · rw [dif_pos hn]; subst hn; exact ⟨rfl, Rg.nil, trivial⟩
    · rw [dif_neg hn]
      obtain ⟨h1, h2, h3⟩ := ih (n / 65536) (by omega)
      refine ⟨by simp only [nat, h1]; omega, Rg.cons.2 ⟨by omega, h2⟩, ?_⟩
      cases hr : digsN (n / 65536) with
      | nil =>
        rw [hr] at h1; simp [nat] at h1
        show ((n % 65536 : Nat) : Int) ≠ 0
        omega
      | cons y s => rw [hr] at h3; exact h3
theorem nat_digs (z : Int) : nat (digs z) = (z.natAbs : Int) := (digsN_spec _).1
theorem nat_digs' {z : Int} (h : 0 ≤ z) : nat (digs z) = z := by rw [nat_digs]; omega
theorem rg_digs (z : Int) : Rg (digs z) := (digsN_spec _).2.1
theorem can_digs (z : Int) : Can (digs z) := (digsN_spec _).2.2
theorem digs_natAbs (z : Int) : digs (z.natAbs : Int) = digs z := by unfold digs; rw [Int.natAbs_natCast]
theorem digs_neg (z : Int) : digs (-z) = digs z := by unfold digs; rw [Int.natAbs_neg]
theorem digs_nil {z : Int} : (digs z).length = 0 ↔ z = 0 := by
  constructor
  · intro h
    have h1 := nat_digs z
    rw [List.length_eq_zero_iff.1 h] at h1
    simp [nat] at h1; omega
  · rintro rfl; simp [digs_zero]
theorem pow_le_of_can {l : List Int} (h : Rg l) (hc : Can l) (h0 : l ≠ []) : 65536 ^ (l.length - 1) ≤ nat l := by
  induction l with
  | nil => exact absurd rfl h0
  | cons d r ih =>
    have h1 := Rg.cons.1 h
    cases r with
    | nil => simp [Can] at hc; simp [nat]; omega
    | cons y s =>
      have := ih h1.2 hc (by simp)
      simp only [List.length_cons, Nat.add_sub_cancel] at this ⊢
      simp only [nat, Int.pow_succ] at this ⊢
      omega
theorem pow_mono {m n : Nat} (h : m ≤ n) : (65536 : Int) ^ m ≤ 65536 ^ n := by
  obtain ⟨k, rfl⟩ := Nat.exists_eq_add_of_le h
  have h1 : (0 : Int) < 65536 ^ m := Int.pow_pos (by decide)
  have h2 : (0 : Int) < 65536 ^ k := Int.pow_pos (by decide)
  rw [Int.pow_add]
  have := Int.mul_le_mul_of_nonneg_left (show (1 : Int) ≤ 65536 ^ k by omega) (Int.le_of_lt h1)
  omega
theorem digs_len_le {z : Int} {n : Nat} (h : (z.natAbs : Int) < 65536 ^ n) : (digs z).length ≤ n := by
  rcases Nat.lt_or_ge n (digs z).length with hl | hl
  · exfalso
    have h1 := pow_le_of_can (rg_digs z) (can_digs z) (by intro e; rw [e] at hl; exact Nat.not_lt_zero _ hl)
    rw [nat_digs] at h1
    have h3 := pow_mono (show n ≤ (digs z).length - 1 by omega)
    omega
  · exact hl
theorem digs_lt (z : Int) : (z.natAbs : Int) < 65536 ^ (digs z).length := by rw [← nat_digs]; exact nat_lt (rg_digs z)
theorem digs_len_lt {x y : Int} (h : (digs x).length < (digs y).length) : x.natAbs < y.natAbs := by
  rcases Nat.lt_or_ge x.natAbs y.natAbs with h1 | h1
  · exact h1
  · have := digs_len_le (z := y) (n := (digs x).length) (by have := digs_lt x; omega)
    omega

/-! ### noughts at the end left off -/
def trimN (ds : List Int) : Nat → Nat
  | 0 => 0
  | n + 1 => if ds.getD n 0 = 0 then trimN ds n else n + 1
theorem trimN_le (ds : List Int) : ∀ n, trimN ds n ≤ n
  | 0 => Nat.le_refl _
  | n + 1 => by have := trimN_le ds n; unfold trimN; split <;> omega
theorem trimN_spec (ds : List Int) : ∀ n, n ≤ ds.length → nat (ds.take (trimN ds n)) = nat (ds.take n) ∧ Can (ds.take (trimN ds n))
  | 0, _ => ⟨rfl, by simp [trimN, Can]⟩
  | n + 1, h => by
    have ih := trimN_spec ds n (by omega)
    unfold trimN
    split
    · rename_i h0
      rw [nat_take_succ ds (by omega), h0]
      exact ⟨by rw [ih.1]; omega, ih.2⟩
    · rename_i h0
      refine ⟨rfl, ?_⟩
      rw [List.take_add_one, List.getElem?_eq_getElem (by omega)]
      rw [List.getD_eq_getElem?_getD, List.getElem?_eq_getElem (by omega)] at h0
      exact (can_snoc _ _).2 h0
theorem digs_take {ds : List Int} (h : Rg ds) : digs (nat ds) = ds.take (trimN ds ds.length) := by
  have h1 := trimN_spec ds ds.length (Nat.le_refl _)
  rw [List.take_length] at h1
  rw [← h1.1]
  exact digs_nat (h.take _) h1.2
theorem trim_len {ds : List Int} (h : Rg ds) : trimN ds ds.length = (digs (nat ds)).length := by
  rw [digs_take h, List.length_take]
  have := trimN_le ds ds.length
  omega
theorem digs_take' {ds : List Int} (h : Rg ds) : ds.take (digs (nat ds)).length = digs (nat ds) := by rw [← trim_len h, digs_take h]
theorem digs_len_nat {ds : List Int} (h : Rg ds) : (digs (nat ds)).length ≤ ds.length := by rw [← trim_len h]; exact trimN_le _ _

/-! ### which one is greater -/
def cmpZ (x y : Int) : Int := if x < y then -1 else if y < x then 1 else 0
theorem nat_drop_lt {xs ys : List Int} (hx : Rg xs) (hy : Rg ys) (hl : xs.length = ys.length) {i : Nat} (hi : i < xs.length) (h : xs.drop (i + 1) = ys.drop (i + 1)) (hlt : xs.getD i 0 < ys.getD i 0) : nat xs < nat ys := by
  rw [nat_split xs (i + 1), nat_split ys (i + 1), h]
  have e1 : (xs.take (i + 1)).length = i + 1 := by simp; omega
  have e2 : (ys.take (i + 1)).length = i + 1 := by simp; omega
  rw [e1, e2, nat_take_succ xs hi, nat_take_succ ys (by omega)]
  have h1 := nat_lt (hx.take i)
  have h2 := nat_nonneg (hy.take i)
  have e3 : (xs.take i).length = i := by simp; omega
  rw [e3] at h1
  have h3 : (65536 : Int) ^ i * (xs.getD i 0 + 1) ≤ 65536 ^ i * ys.getD i 0 := Int.mul_le_mul_of_nonneg_left (by omega) (Int.pow_nonneg (by decide))
  rw [Int.mul_add, Int.mul_one] at h3
  omega
theorem cmp_len_lt {x y : Int} (hx : 0 ≤ x) (hy : 0 ≤ y) (h : (digs x).length < (digs y).length) : cmpZ x y = -1 := by
  have := digs_len_lt h
  unfold cmpZ; rw [if_pos (by omega)]
theorem cmp_len_gt {x y : Int} (hx : 0 ≤ x) (hy : 0 ≤ y) (h : (digs y).length < (digs x).length) : cmpZ x y = 1 := by
  have := digs_len_lt h
  unfold cmpZ; rw [if_neg (by omega), if_pos (by omega)]
theorem dcmp_lt {x y : Int} (hx : 0 ≤ x) (hy : 0 ≤ y) (hl : (digs x).length = (digs y).length) {i : Nat} (hi : i < (digs x).length) (h : (digs x).drop (i + 1) = (digs y).drop (i + 1)) (hlt : (digs x).getD i 0 < (digs y).getD i 0) : cmpZ x y = -1 := by
  have := nat_drop_lt (rg_digs x) (rg_digs y) hl hi h hlt
  rw [nat_digs' hx, nat_digs' hy] at this
  unfold cmpZ; rw [if_pos (by omega)]
theorem cmp_gt {x y : Int} (hx : 0 ≤ x) (hy : 0 ≤ y) (hl : (digs x).length = (digs y).length) {i : Nat} (hi : i < (digs x).length) (h : (digs x).drop (i + 1) = (digs y).drop (i + 1)) (hlt : (digs y).getD i 0 < (digs x).getD i 0) : cmpZ x y = 1 := by
  have := nat_drop_lt (rg_digs y) (rg_digs x) hl.symm (by omega) h.symm hlt
  rw [nat_digs' hx, nat_digs' hy] at this
  unfold cmpZ; rw [if_neg (by omega), if_pos (by omega)]
theorem cmp_eq {x y : Int} (hx : 0 ≤ x) (hy : 0 ≤ y) (h : digs x = digs y) : cmpZ x y = 0 := by
  have h1 := nat_digs' hx
  have h2 := nat_digs' hy
  rw [h] at h1
  unfold cmpZ; rw [if_neg (by omega), if_neg (by omega)]
theorem drop_step {xs ys : List Int} (hl : xs.length = ys.length) {i : Nat} (h : xs.drop (i + 1) = ys.drop (i + 1)) (he : xs.getD i 0 = ys.getD i 0) : xs.drop i = ys.drop i := by
  rcases Nat.lt_or_ge i xs.length with hi | hi
  · rw [List.drop_eq_getElem_cons hi, List.drop_eq_getElem_cons (show i < ys.length by omega), h]
    simp only [List.getD_eq_getElem?_getD, List.getElem?_eq_getElem hi, List.getElem?_eq_getElem (show i < ys.length by omega)] at he
    simp only [Option.getD_some] at he
    rw [he]
  · rw [List.drop_eq_nil_of_le hi, List.drop_eq_nil_of_le (by omega)]

/-! ### a sum, a difference -/
theorem nat_take_succ' (ds : List Int) (i : Nat) : nat (ds.take (i + 1)) = nat (ds.take i) + 65536 ^ i * ds.getD i 0 := by
  rcases Nat.lt_or_ge i ds.length with hi | hi
  · exact nat_take_succ ds hi
  · rw [List.take_of_length_le (show ds.length ≤ i + 1 by omega), List.take_of_length_le hi, List.getD_eq_getElem?_getD, List.getElem?_eq_none hi]
    simp
theorem nat_snoc (ds : List Int) {i : Nat} (hl : ds.length = i) (d : Int) : nat (ds ++ [d]) = nat ds + 65536 ^ i * d := by
  rw [nat_append, hl]; simp [nat]
theorem rg_snoc {ds : List Int} (h : Rg ds) {d : Int} (h0 : 0 ≤ d) (h1 : d < 65536) : Rg (ds ++ [d]) := Rg.append.2 ⟨h, Rg.cons.2 ⟨⟨h0, h1⟩, Rg.nil⟩⟩
structure AddI (xs ys ds : List Int) (i : Nat) (cy : Int) : Prop where
  l : ds.length = i
  g : Rg ds
  h0 : 0 ≤ cy
  h1 : cy ≤ 1
  s : nat ds + 65536 ^ i * cy = nat (xs.take i) + nat (ys.take i)
theorem AddI.start (xs ys : List Int) : AddI xs ys [] 0 0 := ⟨rfl, Rg.nil, by omega, by omega, by simp [nat]⟩
theorem AddI.step {xs ys ds : List Int} {i : Nat} {cy c : Int} (h : AddI xs ys ds i cy) (hx : Rg xs) (hy : Rg ys) (hc : c = cy + xs.getD i 0 + ys.getD i 0) : AddI xs ys (ds ++ [c % 65536]) (i + 1) (c / 65536) := by
  obtain ⟨hl, hg, h0, h1, hs⟩ := h
  have a := hx.getD i
  have b := hy.getD i
  refine ⟨by simp [hl], rg_snoc hg (by omega) (by omega), by omega, by omega, ?_⟩
  rw [nat_snoc ds hl, nat_take_succ', nat_take_succ', Int.pow_succ]
  have e : c = 65536 * (c / 65536) + c % 65536 := by omega
  have e2 : (65536 : Int) ^ i * c = 65536 ^ i * 65536 * (c / 65536) + 65536 ^ i * (c % 65536) := by
    rw [Int.mul_assoc, ← Int.mul_add, ← e]
  have e3 : (65536 : Int) ^ i * c = 65536 ^ i * cy + 65536 ^ i * xs.getD i 0 + 65536 ^ i * ys.getD i 0 := by rw [hc, Int.mul_add, Int.mul_add]
  omega
theorem AddI.done {xs ys ds : List Int} {i : Nat} (h : AddI xs ys ds i 0) (hx : xs.length ≤ i) (hy : ys.length ≤ i) : nat ds = nat xs + nat ys := by
  have := h.s
  rw [nat_take_all xs hx, nat_take_all ys hy] at this
  omega
structure SubI (xs ys ds : List Int) (i : Nat) (cy : Int) : Prop where
  l : ds.length = i
  g : Rg ds
  h0 : 0 ≤ cy
  h1 : cy ≤ 1
  s : nat ds + nat (ys.take i) = nat (xs.take i) + 65536 ^ i * cy
theorem SubI.start (xs ys : List Int) : SubI xs ys [] 0 0 := ⟨rfl, Rg.nil, by omega, by omega, by simp [nat]⟩
theorem SubI.step {xs ys ds : List Int} {i : Nat} {cy n : Int} (h : SubI xs ys ds i cy) (hx : Rg xs) (hy : Rg ys) (hc : n = xs.getD i 0 - cy - ys.getD i 0) : (0 ≤ n → SubI xs ys (ds ++ [n]) (i + 1) 0) ∧ (n < 0 → SubI xs ys (ds ++ [n + 65536]) (i + 1) 1) := by
  obtain ⟨hl, hg, h0, h1, hs⟩ := h
  have a := hx.getD i
  have b := hy.getD i
  have e3 : (65536 : Int) ^ i * n = 65536 ^ i * xs.getD i 0 - 65536 ^ i * cy - 65536 ^ i * ys.getD i 0 := by rw [hc, Int.mul_sub, Int.mul_sub]
  constructor
  · intro hn
    refine ⟨by simp [hl], rg_snoc hg (by omega) (by omega), by omega, by omega, ?_⟩
    rw [nat_snoc ds hl, nat_take_succ', nat_take_succ']
    omega
  · intro hn
    refine ⟨by simp [hl], rg_snoc hg (by omega) (by omega), by omega, by omega, ?_⟩
    rw [nat_snoc ds hl, nat_take_succ', nat_take_succ', Int.pow_succ, Int.mul_add]
    omega
theorem SubI.done {xs ys ds : List Int} {i : Nat} {cy : Int} (h : SubI xs ys ds i cy) (hx : xs.length ≤ i) (hy : ys.length ≤ i) (hle : nat ys ≤ nat xs) : nat ds = nat xs - nat ys := by
  have h2 := h.s
  rw [nat_take_all xs hx, nat_take_all ys hy] at h2
  have h3 := nat_lt h.g
  rw [h.l] at h3
  have h4 := h.h0
  have h5 := h.h1
  have : cy = 0 := by
    rcases (show cy = 0 ∨ cy = 1 by omega) with h | h
    · exact h
    · subst h; omega
  subst this
  omega
theorem getD_out {ds : List Int} {i : Nat} (h : ds.length ≤ i) : ds.getD i 0 = 0 := by rw [List.getD_eq_getElem?_getD, List.getElem?_eq_none h]; rfl
theorem digs_mono {x y : Int} (hx : 0 ≤ x) (h : x ≤ y) : (digs x).length ≤ (digs y).length := by
  rcases Nat.lt_or_ge (digs y).length (digs x).length with h1 | h1
  · have := digs_len_lt h1; omega
  · exact h1
end Go.Proofs.Ytdfkghpgekmmlaa

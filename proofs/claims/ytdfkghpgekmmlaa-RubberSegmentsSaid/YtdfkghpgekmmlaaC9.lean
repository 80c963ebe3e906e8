/- wide.signed, wide.Neg. -/
import Derived.Test.YtdfkghpgekmmlaaC8
namespace Go.Proofs.Ytdfkghpgekmmlaa
open Go.RowKit
set_option linter.unusedVariables false
set_option linter.unusedSimpArgs false


/-- what 'signed' keeps in memory: the result's box, the number's, the least one's -/
def SW (w W : World) (n : Int) : Prop := Blk W (w.heap.size + 1) 39 #[.int .i64 0, .int .u64 0] ∧ Blk W w.heap.size 96 #[.int .u64 (hi n), .int .u64 (lo n)] ∧ Blk W (w.heap.size + 1 + 1) 96 #[.int .u64 9223372036854775808, .int .u64 0] ∧ Below w.heap.size w W
theorem SW.bel {w W W' : World} {n : Int} (k : SW w W n) (hb : Below W.heap.size W W') : SW w W' n := ⟨k.1.below hb k.1.lt, k.2.1.below hb k.2.1.lt, k.2.2.1.below hb k.2.2.1.lt, below_to k.2.2.2 hb⟩
theorem SW.mk (w : World) (n : Int) : SW w (((w.alloc (.cells #[.int .u64 (hi n), .int .u64 (lo n)] 96)).alloc (.cells #[.int .i64 0, .int .u64 0] 39)).alloc (.cells #[.int .u64 9223372036854775808, .int .u64 0] 96)) n := ⟨(blk1 w _ _ _).alloc _, ((Blk.new w _ _).alloc _).alloc _, blk2 w _ _ _ _, (by repeat (first | exact Below.refl _ _ | assumption | refine below_al ?_ _ | refine below_dr ?_ | refine below_drN ?_ _ | refine below_set ?_ (by simp; try omega) _ | (refine below_to ?_ (by assumption))))⟩

set_option maxHeartbeats 1000000 in
set_option maxRecDepth 100000 in
theorem signed_mf (n : Int) (hn : InM n) (hle : n ≤ 170141183460469231731687303715884105728) (w : World) :
    Calls Try.prog 62 #[.agg #[.int .u64 (hi (n)), .int .u64 (lo (n))], .bool true] w fun e w' => e = .returned (.tuple #[.agg #[.int .i64 (hi (-n)), .int .u64 (lo (-n))], .int .i64 0]) ∧ Below w.heap.size w w' := by
  have hnot : ∀ (x : Bool) (w : World), (Op.unary .not (.bool x)).run Try.prog w = .ok (.bool (!x)) w := fun _ _ => rfl
  have h127 : hi 170141183460469231731687303715884105728 = 9223372036854775808 := rfl
  have l127 : lo 170141183460469231731687303715884105728 = 0 := rfl
  have z0 : hi 0 = 0 := rfl
  have z1 : lo 0 = 0 := rfl
  have HC := Lib.hid (lcmp_any n 170141183460469231731687303715884105728 hn (by unfold InM; omega))
  rw [h127, l127] at HC
  have hc : cmp3 n 170141183460469231731687303715884105728 ≤ 0 := by unfold cmp3; (repeat' split) <;> omega
  obtain ⟨c, hcc⟩ : ∃ c, c = cmp3 n 170141183460469231731687303715884105728 := ⟨_, rfl⟩
  rw [← hcc] at HC hc
  have HS := Lib.hid (lsub_any 0 n (by unfold InM; omega) hn)
  rw [z0, z1] at HS
  have HF := Lib.hid (from_any ((0 - n) % 340282366920938463463374607431768211456) (mod_in _))
  have es : sgn ((0 - n) % 340282366920938463463374607431768211456) = -n := by unfold InM at hn; unfold sgn; split <;> omega
  rw [es] at HF
  obtain ⟨m, hm⟩ : ∃ m, m = (0 - n) % 340282366920938463463374607431768211456 := ⟨_, rfl⟩
  rw [← hm] at HS HF
  clear hcc hn hm es h127 l127 z0 z1 hle
  go_enter Try.func62, Try.ntmps62
  go_wp2_with fail
  refine (HC.out _).mono ?_
  rintro e w1 ⟨rfl, hb1⟩
  have HSW1 := Lib.hid ((SW.mk w n).bel hb1)
  clear hb1
  have c10 := HSW1.out.1.cell 0
  have c11 := HSW1.out.1.cell 1
  have f10 := HSW1.out.1.frozen 0
  have f11 := HSW1.out.1.frozen 1
  have c00 := HSW1.out.2.1.cell 0
  have c01 := HSW1.out.2.1.cell 1
  have c20 := HSW1.out.2.2.1.cell 0
  have c21 := HSW1.out.2.2.1.cell 1
  have hlt := HSW1.out.2.2.1.lt
  simp at c00 c01 c10 c11 c20 c21
  go_wp2_with fail
  refine (HS.out _).mono ?_
  rintro e w2 ⟨rfl, hb2⟩
  have HSW2 := Lib.hid (HSW1.out.bel hb2)
  clear hb2 c00 c01 c10 c11 c20 c21 f10 f11
  go_wp2_with fail
  refine (HF.out _).mono ?_
  rintro e w3 ⟨rfl, hb3⟩
  have hb4 : Below w2.heap.size w2 w3 := below_to (below_al (Below.refl _ _) _) hb3
  have HSW3 := Lib.hid (HSW2.out.bel hb4)
  clear hb3 hb4
  have c10 := HSW3.out.1.cell 0
  have c11 := HSW3.out.1.cell 1
  have f10 := HSW3.out.1.frozen 0
  have f11 := HSW3.out.1.frozen 1
  have c00 := HSW3.out.2.1.cell 0
  have c01 := HSW3.out.2.1.cell 1
  have c20 := HSW3.out.2.2.1.cell 0
  have c21 := HSW3.out.2.2.1.cell 1
  have hlt := HSW3.out.2.2.1.lt
  simp at c00 c01 c10 c11 c20 c21
  have HB := HSW3.out.2.2.2
  clear c00 c01 c20 c21
  go_wp2
  refine bodyPost_ret (v := ?_) (by simp [results, Try.results62, go_sem, *]; rfl) rfl ⟨rfl, (by repeat (first | exact Below.refl _ _ | assumption | refine below_al ?_ _ | refine below_dr ?_ | refine below_drN ?_ _ | refine below_set ?_ (by simp; try omega) _ | (refine below_to ?_ (by assumption))))⟩
  
set_option maxHeartbeats 1000000 in
set_option maxRecDepth 100000 in
theorem signed_mo (n : Int) (hn : InM n) (hle : 170141183460469231731687303715884105728 < n) (w : World) :
    Calls Try.prog 62 #[.agg #[.int .u64 (hi (n)), .int .u64 (lo (n))], .bool true] w fun e w' => e = .returned (.tuple #[.agg #[.int .i64 (hi (0)), .int .u64 (lo (0))], .int .i64 2]) ∧ Below w.heap.size w w' := by
  have hnot : ∀ (x : Bool) (w : World), (Op.unary .not (.bool x)).run Try.prog w = .ok (.bool (!x)) w := fun _ _ => rfl
  have h127 : hi 170141183460469231731687303715884105728 = 9223372036854775808 := rfl
  have l127 : lo 170141183460469231731687303715884105728 = 0 := rfl
  have z0 : hi 0 = 0 := rfl
  have z1 : lo 0 = 0 := rfl
  have HC := Lib.hid (lcmp_any n 170141183460469231731687303715884105728 hn (by unfold InM; omega))
  rw [h127, l127] at HC
  have hc : ¬ cmp3 n 170141183460469231731687303715884105728 ≤ 0 := by unfold cmp3; (repeat' split) <;> omega
  obtain ⟨c, hcc⟩ : ∃ c, c = cmp3 n 170141183460469231731687303715884105728 := ⟨_, rfl⟩
  rw [← hcc] at HC hc
  rw [z0, z1]
  clear hcc hn h127 l127 z0 z1 hle
  go_enter Try.func62, Try.ntmps62
  go_wp2_with fail
  refine (HC.out _).mono ?_
  rintro e w1 ⟨rfl, hb1⟩
  have HSW1 := Lib.hid ((SW.mk w n).bel hb1)
  clear hb1
  have c10 := HSW1.out.1.cell 0
  have c11 := HSW1.out.1.cell 1
  have f10 := HSW1.out.1.frozen 0
  have f11 := HSW1.out.1.frozen 1
  have c00 := HSW1.out.2.1.cell 0
  have c01 := HSW1.out.2.1.cell 1
  have c20 := HSW1.out.2.2.1.cell 0
  have c21 := HSW1.out.2.2.1.cell 1
  have hlt := HSW1.out.2.2.1.lt
  simp at c00 c01 c10 c11 c20 c21
  have HB := HSW1.out.2.2.2
  clear c00 c01 c20 c21
  go_wp2
  refine bodyPost_ret (v := ?_) (by simp [results, Try.results62, go_sem, *]; rfl) rfl ⟨rfl, (by repeat (first | exact Below.refl _ _ | assumption | refine below_al ?_ _ | refine below_dr ?_ | refine below_drN ?_ _ | refine below_set ?_ (by simp; try omega) _ | (refine below_to ?_ (by assumption))))⟩
  
set_option maxHeartbeats 1000000 in
set_option maxRecDepth 100000 in
theorem signed_pf (n : Int) (hn : InM n) (hle : n < 170141183460469231731687303715884105728) (w : World) :
    Calls Try.prog 62 #[.agg #[.int .u64 (hi (n)), .int .u64 (lo (n))], .bool false] w fun e w' => e = .returned (.tuple #[.agg #[.int .i64 (hi (n)), .int .u64 (lo (n))], .int .i64 0]) ∧ Below w.heap.size w w' := by
  have hnot : ∀ (x : Bool) (w : World), (Op.unary .not (.bool x)).run Try.prog w = .ok (.bool (!x)) w := fun _ _ => rfl
  have h127 : hi 170141183460469231731687303715884105728 = 9223372036854775808 := rfl
  have l127 : lo 170141183460469231731687303715884105728 = 0 := rfl
  have z0 : hi 0 = 0 := rfl
  have z1 : lo 0 = 0 := rfl
  have HC := Lib.hid (lcmp_any n 170141183460469231731687303715884105728 hn (by unfold InM; omega))
  rw [h127, l127] at HC
  have hc : cmp3 n 170141183460469231731687303715884105728 < 0 := by unfold cmp3; (repeat' split) <;> omega
  obtain ⟨c, hcc⟩ : ∃ c, c = cmp3 n 170141183460469231731687303715884105728 := ⟨_, rfl⟩
  rw [← hcc] at HC hc
  have HF := Lib.hid (from_any n hn)
  have es : sgn n = n := by unfold sgn; rw [if_pos hle]
  rw [es] at HF
  clear hcc hn es h127 l127 z0 z1 hle
  go_enter Try.func62, Try.ntmps62
  go_wp2_with fail
  refine (HC.out _).mono ?_
  rintro e w1 ⟨rfl, hb1⟩
  have HSW1 := Lib.hid ((SW.mk w n).bel hb1)
  clear hb1
  have c10 := HSW1.out.1.cell 0
  have c11 := HSW1.out.1.cell 1
  have f10 := HSW1.out.1.frozen 0
  have f11 := HSW1.out.1.frozen 1
  have c00 := HSW1.out.2.1.cell 0
  have c01 := HSW1.out.2.1.cell 1
  have c20 := HSW1.out.2.2.1.cell 0
  have c21 := HSW1.out.2.2.1.cell 1
  have hlt := HSW1.out.2.2.1.lt
  simp at c00 c01 c10 c11 c20 c21
  go_wp2_with fail
  refine (HF.out _).mono ?_
  rintro e w3 ⟨rfl, hb3⟩
  have HSW3 := Lib.hid (HSW1.out.bel hb3)
  clear hb3 c00 c01 c10 c11 c20 c21 f10 f11
  have c10 := HSW3.out.1.cell 0
  have c11 := HSW3.out.1.cell 1
  have f10 := HSW3.out.1.frozen 0
  have f11 := HSW3.out.1.frozen 1
  have c00 := HSW3.out.2.1.cell 0
  have c01 := HSW3.out.2.1.cell 1
  have c20 := HSW3.out.2.2.1.cell 0
  have c21 := HSW3.out.2.2.1.cell 1
  have hlt := HSW3.out.2.2.1.lt
  simp at c00 c01 c10 c11 c20 c21
  have HB := HSW3.out.2.2.2
  clear c00 c01 c20 c21
  go_wp2
  refine bodyPost_ret (v := ?_) (by simp [results, Try.results62, go_sem, *]; rfl) rfl ⟨rfl, (by repeat (first | exact Below.refl _ _ | assumption | refine below_al ?_ _ | refine below_dr ?_ | refine below_drN ?_ _ | refine below_set ?_ (by simp; try omega) _ | (refine below_to ?_ (by assumption))))⟩
  
set_option maxHeartbeats 1000000 in
set_option maxRecDepth 100000 in
theorem signed_po (n : Int) (hn : InM n) (hle : 170141183460469231731687303715884105728 ≤ n) (w : World) :
    Calls Try.prog 62 #[.agg #[.int .u64 (hi (n)), .int .u64 (lo (n))], .bool false] w fun e w' => e = .returned (.tuple #[.agg #[.int .i64 (hi (0)), .int .u64 (lo (0))], .int .i64 2]) ∧ Below w.heap.size w w' := by
  have hnot : ∀ (x : Bool) (w : World), (Op.unary .not (.bool x)).run Try.prog w = .ok (.bool (!x)) w := fun _ _ => rfl
  have h127 : hi 170141183460469231731687303715884105728 = 9223372036854775808 := rfl
  have l127 : lo 170141183460469231731687303715884105728 = 0 := rfl
  have z0 : hi 0 = 0 := rfl
  have z1 : lo 0 = 0 := rfl
  have HC := Lib.hid (lcmp_any n 170141183460469231731687303715884105728 hn (by unfold InM; omega))
  rw [h127, l127] at HC
  have hc : ¬ cmp3 n 170141183460469231731687303715884105728 < 0 := by unfold cmp3; (repeat' split) <;> omega
  obtain ⟨c, hcc⟩ : ∃ c, c = cmp3 n 170141183460469231731687303715884105728 := ⟨_, rfl⟩
  rw [← hcc] at HC hc
  rw [z0, z1]
  clear hcc hn h127 l127 z0 z1 hle
  go_enter Try.func62, Try.ntmps62
  go_wp2_with fail
  refine (HC.out _).mono ?_
  rintro e w1 ⟨rfl, hb1⟩
  have HSW1 := Lib.hid ((SW.mk w n).bel hb1)
  clear hb1
  have c10 := HSW1.out.1.cell 0
  have c11 := HSW1.out.1.cell 1
  have f10 := HSW1.out.1.frozen 0
  have f11 := HSW1.out.1.frozen 1
  have c00 := HSW1.out.2.1.cell 0
  have c01 := HSW1.out.2.1.cell 1
  have c20 := HSW1.out.2.2.1.cell 0
  have c21 := HSW1.out.2.2.1.cell 1
  have hlt := HSW1.out.2.2.1.lt
  simp at c00 c01 c10 c11 c20 c21
  have HB := HSW1.out.2.2.2
  clear c00 c01 c20 c21
  go_wp2
  refine bodyPost_ret (v := ?_) (by simp [results, Try.results62, go_sem, *]; rfl) rfl ⟨rfl, (by repeat (first | exact Below.refl _ _ | assumption | refine below_al ?_ _ | refine below_dr ?_ | refine below_drN ?_ _ | refine below_set ?_ (by simp; try omega) _ | (refine below_to ?_ (by assumption))))⟩
  
/-- a number of a size, and a sign -/
def neg (m : Bool) (n : Int) : Int := if m then -n else n
theorem signed_any (n : Int) (hn : InM n) (m : Bool) (w : World) :
    Calls Try.prog 62 #[.agg #[.int .u64 (hi (n)), .int .u64 (lo (n))], .bool m] w fun e w' => e = .returned (.tuple #[.agg #[.int .i64 (hi (fitV (neg m n))), .int .u64 (lo (fitV (neg m n)))], .int .i64 (fitE (neg m n))]) ∧ Below w.heap.size w w' := by
  have h0 := hn.1
  cases m
  · by_cases h : n < 170141183460469231731687303715884105728
    · obtain ⟨e1, e2⟩ := fit_yes (z := neg false n) (by unfold neg InW; simp; omega)
      rw [e1, e2]
      exact signed_pf n hn h w
    · obtain ⟨e1, e2⟩ := fit_no (z := neg false n) (by unfold neg InW; simp; omega)
      rw [e1, e2]
      exact signed_po n hn (by omega) w
  · by_cases h : n ≤ 170141183460469231731687303715884105728
    · obtain ⟨e1, e2⟩ := fit_yes (z := neg true n) (by unfold neg InW; simp; omega)
      rw [e1, e2]
      exact signed_mf n hn h w
    · obtain ⟨e1, e2⟩ := fit_no (z := neg true n) (by unfold neg InW; simp; omega)
      rw [e1, e2]
      exact signed_mo n hn (by omega) w
end Go.Proofs.Ytdfkghpgekmmlaa
